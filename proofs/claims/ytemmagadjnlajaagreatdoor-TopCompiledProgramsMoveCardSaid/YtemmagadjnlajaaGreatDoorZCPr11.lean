/- Models and proofs. Conditions: none. -/
import Derived.Test.YtemmagadjnlajaaGreatDoorZCPr10
import Derived.RecoverIn
import Derived.Lib.Bytealg
set_option linter.unusedVariables false
set_option linter.unusedSimpArgs false
set_option maxHeartbeats 4000000
set_option maxRecDepth 20000
open Go.Proofs.Tryz
variable (U:Nat)
namespace Go.Gx
open Go Go.Sx Go.RowKit
def KH (b a:iP):iP:=λh=>match b h with
 |some l=>some l
 |none=>a h
theorem BP {a b:iP} {h:Nat} {l:UO} (e:a h=some l):KH a b h=some l:=by simp[KH,e]
theorem BO {b a:iP} {h:Nat} (e:b h=none):KH b a h=a h:=by simp[KH,e]
theorem KX {a b:iP}:a.le (KH a b):=λ_ _ e=>BP e
def SlD (all:V6 V5) (b:GF) (c:Nat->GV) (D:Nat->V4) (t:Nat) (g:GV):Prop:=
 (∃i o,D i=true/\all[i]?=some o/\o.dst=some t/\c i=g/\∀j a,D j=true->all[j]?=some a->a.dst=some t->j<=i)\/((∀j a,D j=true->all[j]?=some a->a.dst≠some t)/\JJ b t=some g)
def ins (D:Nat->V4) (k:Nat):Nat->V4:=λj=>j==k||D j
theorem Fz (D:Nat->V4) (k:Nat):ins D k k=true:=by simp[ins]
theorem EC {D:Nat->V4} {k j:Nat} (h:j≠k):ins D k j=D j:=by simp[ins,h]
theorem Fy {D:Nat->V4} {k j:Nat} (h:D j=true):ins D k j=true:=by simp[ins,h]
noncomputable def Ir (σ:GF) (L:vV):GF:=L.filterMap λt=>(JJ σ t).map λg=>(t,g)
theorem Hj {σ:GF} {t:Nat}:∀{L:vV},JJ (Ir σ L) t=if t∈L then JJ σ t else none
 | []=>rfl
 | x :: L =>by
  have c:=Hj (σ:=σ) (t:=t) (L:=L);cases b:JJ σ x with
  |none=>
   have e:Ir σ (x::L)=Ir σ L:=by simp[Ir,b]
   rw[e,c];by_cases a:t=x
   .subst a;simp[b]
   .simp[a]
  |some g=>
   have e:Ir σ (x::L)=(x,g)::Ir σ L:=by simp[Ir,b]
   rw[e,Fx,c];by_cases a:t=x
   .subst a;simp[b]
   .simp[a]
section
variable {P:Program} {tb:TB} {gs:FX} {w0:lJ gs} {ih:CH} {all:V6 V5} {n:Nat} {S:Nat->GF} {HH:Nat->GH} {gg:Nat->GV}
structure Bf (P:Program) (tb:TB) {gs:FX} (w0:lJ gs) (ih:CH) (all:List Oper) (n:Nat) (S:Nat->GF) (HH:Nat->GH) (gg:Nat->GV):Prop where
 tab:iR P tb
 call:∀w0:lJ gs,xA P w0 ih
 ops:all.all (Ms n)=true
 chk:Zr tb all (sX all)
 trc:Trc tb ih all all S HH gg
 vrs:∀k ok h v,all[k]?=some ok->rU ok.op=true->ldH (S k) ok.op=some h->(HH k).ver h=some v->
  (∀j oj,j<k->all[j]?=some oj->gI oj.op=true->before (sX all) k j=false->(HH j).ver h=some v)/\(∀j oj,k<j->all[j]?=some oj->gI oj.op=true->before (sX all) j k=false->(HH (j+1)).ver h=some v)
 chain:∃ρs:Nat->iP,(∀i,i<=all.length->∃a w,lP w0 (ρs i) (HH i) w/\oK (ρs i) n (S i) a)/\∀i,i<all.length->(ρs i).le (ρs (i+1))
theorem Bf.ghost (E:Bf P tb w0 ih all n S HH gg) (i:Nat) (c:i<=all.length):∃b a w,lP w0 b (HH i) w/\oK b n (S i) a:=
 let ⟨ρs,h,_⟩:=E.chain
 ⟨ρs i,h i c⟩
theorem Bf.mono (E:Bf P tb w0 ih all n S HH gg) (i:Nat) (a:i<all.length):(HH i).n<=(HH (i+1)).n:=by
 have⟨e,h,b⟩:=E.chain;have⟨_,_,c,_⟩:=h i (Nat.le_of_lt a);have⟨_,_,d,_⟩:=h (i+1) a;exact c.mono d (b i a)
theorem TJ {a:Nat->iP} {m:Nat} (h:∀i,i<m->(a i).le (a (i+1))) {i:Nat}:∀{j:Nat},i<=j->j<=m->(a i).le (a j)
  | 0, h1, _ =>by
      have : i = 0 := by omega
      subst this;exact iP.le_refl _
  | j + 1, h1, hj =>by
    by_cases e:i=j+1
    · subst e;exact iP.le_refl _
    · exact iP.le_trans (TJ h V7 V7) (h j V7)
theorem Bf.same (E:Bf P tb w0 ih all n S HH gg) {i j:Nat} (b:i<=j) (u:j<=all.length) {h v:Nat} (q:(HH i).ver h=some v) (r:(HH j).ver h=some v):(HH i).get h=(HH j).get h:=by
 have⟨J,s,e⟩:=E.chain;have A:=TJ e b u;have⟨_,K,l,_⟩:=s i V7;have⟨_,L,m,_⟩:=s j u;have a:∀{k:Nat},(HH k).ver h=some v->∃o,(HH k).get h=some o:=λ{k} hv=>by
  have⟨p,B,_⟩:=aH.1 (show ob ((HH k).t.get h) _=some v from hv);exact⟨p.2,by unfold GH.get;rw[B];rfl⟩
 have⟨H,f⟩:=a q;have⟨I,g⟩:=a r;have⟨C,c,_⟩:=l.live h H f;have⟨D,d,_⟩:=m.live h I g;have⟨F,w,_,y⟩:=l.vers h v C q c;have⟨G,x,_,z⟩:=m.vers h v D r d;have:=A _ _ w;rw[x]at this;cases this;rw[y,z]
theorem Bf.op (E:Bf P tb w0 ih all n S HH gg) {k:Nat} {o:V5} (a:all[k]?=some o):Ms n o=true:=zA2.1 E.ops o (zAo a)
theorem Bf.quiet (E:Bf P tb w0 ih all n S HH gg) {k:Nat} {o:V5} (b:all[k]?=some o) (c:gI o.op=false):HH (k+1)=HH k:=by
 have⟨e,a,w,R,F⟩:=E.ghost k (Nat.le_of_lt (bM b));rcases NG E.tab (E.call w0) (E.op b) F R (E.trc.st k o b)with⟨_,d⟩|⟨_,_,h⟩
 .rcases d with⟨_,_,_,h,_⟩|⟨_,_,h,_⟩|⟨_,_,h,_⟩|⟨h,_⟩
  .exact h
  .exact h
  .exact h
  .rw[c]at h;cases h
 .exact h
theorem Bf.floats (E:Bf P tb w0 ih all n S HH gg) {k:Nat} {o:V5} (c:all[k]?=some o) (d:isFloat o.op=true):HH (k+1)=HH k\/∃b,HH (k+1)=(HH k).new (.cells b):=by
 have⟨e,a,w,R,F⟩:=E.ghost k (Nat.le_of_lt (bM c));rcases Qx (P:=P) E.tab d F (E.trc.st k o c)with⟨_,_,h⟩|⟨_,b,_,_,h,_⟩
 .exact .inl h
 .exact .inr ⟨b,h⟩
theorem abp {H:GH} {o:GO} (h:H=H.new o):False:=by
 have:H.n=H.n+1:=congrArg GH.n h;omega
theorem YU {H:GH} {c a:V6 GV} (h:H.new (.cells c)=H.new (.cells a)):c=a:=by
 have b:=xB H (.cells c) H.n;have d:=xB H (.cells a) H.n;rw[if_pos Z]at b d;rw[h,d]at b;cases b;rfl
theorem Bf.mono' (E:Bf P tb w0 ih all n S HH gg) {i j:Nat} (h:i<=j) (a:j<=all.length):(HH i).n<=(HH j).n:=Uv E.mono h a
theorem Bf.apart (E:Bf P tb w0 ih all n S HH gg) {i j:Nat} {b c:V6 GV} (k:i<all.length) (l:j<all.length) (d:HH (i+1)=(HH i).new (.cells b)) (f:HH (j+1)=(HH j).new (.cells c)) (h:(HH i).n=(HH j).n):i=j:=by
 have e:(HH (i+1)).n=(HH i).n+1:=by rw[d];rfl
 have g:(HH (j+1)).n=(HH j).n+1:=by rw[f];rfl
 rcases Nat.lt_trichotomy i j with a|a|a
 .have:=E.mono' (i:=i+1) (j:=j) V7 V7;omega
 .exact a
 .have:=E.mono' (i:=j+1) (j:=i) V7 V7;omega
structure BA {gs:FX} (w0:lJ gs) (ρb:iP) (n:Nat) (all:List Oper) (S0:GF) (HH:Nat->GH) (gg:Nat->GV) (D:Nat->Bool) (a:Act) (w:World) (t:Nat) (ρ pm:iP):Prop where
 tm:t<=all.length
 lou:∀j o,all[j]?=some o->vH o.op=true->(D j=true↔j<t)
 flo:∀j o,all[j]?=some o->isFloat o.op=true->j<t->D j=true
 rel:lP w0 ρ (HH t) w
 up:ρb.le ρ
 defers:a.defers=[]
 size:a.tmps.size=n
 slot:∀s g,SlD all S0 gg D s g->Rl (KH ρ pm) g (a.eval (.tmp s))
 pend:∀i o cs,all[i]?=some o->isFloat o.op=true->HH (i+1)=(HH i).new (.cells cs)->t<=i->D i=true->∃l,pm (HH i).n=some l/\w0.mine l.b/\¬Zu ρ (HH t) l.b/\w.heap[l.b]?=some l.x/\Ip (KH ρ pm) w l (.cells cs)/\l.o = .cells cs
 only:∀h l,pm h=some l->∃i o cs,all[i]?=some o/\isFloat o.op=true/\HH (i+1)=(HH i).new (.cells cs)/\t<=i/\D i=true/\h=(HH i).n
 inj:∀h h' l l',pm h=some l->pm h'=some l'->l.b=l'.b->h=h'
variable {D:Nat->V4} {a:Act} {w:V2} {t:Nat} {ρ pm ρb:iP}
theorem BA.low (E:Bf P tb w0 ih all n S HH gg) (I:BA w0 ρb n all (S 0) HH gg D a w t ρ pm) {h:Nat} {l:UO} (d:pm h=some l):(HH t).n<=h:=by
 obtain⟨i,o,e,b,_,_,c,_,rfl⟩:=I.only h l d;exact E.mono' c (Nat.le_of_lt (bM b))
theorem BA.adopt (E:Bf P tb w0 ih all n S HH gg) (I:BA w0 ρb n all (S 0) HH gg D a w t ρ pm) {o:V5} (Y:all[t]?=some o) (hl:vH o.op=false) (hf:isFloat o.op=true->D t=true):
  ∃c b,BA w0 ρb n all (S 0) HH gg D a w (t+1) c b/\KH c b=KH ρ pm:=by
 have ht:=bM Y;have G:∀j o,all[j]?=some o->vH o.op=true->(D j=true↔j<t+1):=λj oj N Q=>by
  have q:j≠t:=λe=>by subst e;rw[Y]at N;cases N;rw[hl]at Q;cases Q
  rw[I.lou j oj N Q];omega
 have C:∀j o,all[j]?=some o->isFloat o.op=true->j<t+1->D j=true:=λj oj N ab ah=>by
  by_cases e:j=t
  .subst e;rw[Y]at N;cases N;exact hf ab
  .exact I.flo j oj N ab V7
 -- nothing is taken up
 have H:HH (t+1)=HH t->∃c b,BA w0 ρb n all (S 0) HH gg D a w (t+1) c b/\KH c b=KH ρ pm:=λe=>
  ⟨ρ,pm,⟨ht,G,C,by rw[e];exact I.rel,I.up,I.defers,I.size,I.slot,λi W B f r y h4 K=>by rw[e];exact I.pend i W B f r y V7 K,λh l hp=>by
   have⟨i,W,B,f,r,y,h4,K,h6⟩:=I.only h l hp;refine⟨i,W,B,f,r,y,?_,K,h6⟩
   by_cases e':i=t
   .subst e';rw[e]at y;exact(abp y).elim
   .omega,I.inj⟩,rfl⟩
 cases z:isFloat o.op with
 |false=>exact H (E.quiet Y (by simpa [vH,z]using hl))
 | true =>
  rcases E.floats Y z with e|⟨B,e⟩
  .exact H e
  have⟨l,hp,U,M,hx,ad,ag⟩:=I.pend t o B Y z e (zAf _) (hf z);have m:ρ (HH t).n=none:=I.rel.fresh _ (zAf _);let c:=ρ.upd (HH t).n l;let b:iP:=λh=>if h=(HH t).n then none else pm h;have k:c (HH t).n=some l:=by simp[c,iP.upd]
  have u:∀h,h≠(HH t).n->c h=ρ h:=λh hh=>by simp[c,iP.upd,hh]
  have O:KH c b=KH ρ pm:=by
   funext h;by_cases d:h=(HH t).n
   .subst d;rw[BP k,BO m,hp]
   .unfold KH;rw[u h d];simp[b,d]
  have hn:(HH (t+1)).n=(HH t).n+1:=by rw[e];rfl
  -- what the object holds is older
  have aa:∀{g:GV} {v v0:V0} {x:iP},(∀h l,x h=some l->h<(HH (t+1)).n)->Rl (KH ρ pm) g v->Rl x g v0->Rl c g v:=λ{g v v0 x} hlow f h0=>by
   refine ZO (λh l0 l1 e0 X=>?_) f h0;have ah:=hlow h l0 e0;by_cases d:h=(HH t).n
   .subst d;rw[BO m,hp]at X;rw[k];exact X
   .rw[u h d];cases hr:ρ h with
    |some l2=>rw[BP hr]at X;exact X
    |none=>
     rw[BO hr]at X;have:=I.low E X;omega
  have⟨x,a0,wg,R0,F0⟩:=E.ghost (t+1) ht;have R:∀h l,x h=some l->h<(HH (t+1)).n:=λh l hl=>by
   rcases zAy h (HH (t+1)).n with J|J
   .exact J
   .rw[R0.fresh h J]at hl;cases hl
  have L:(HH (t+1)).get (HH t).n=some (.cells B):=by rw[e,xB,if_pos Z]
  have⟨l0,_,_,ac⟩:=R0.live _ _ L;have⟨ai,T0,q1,q2,q3,q4⟩:=ac;have V:Ip c w l (.cells B):=by
   have⟨ae,T,p1,p2,p3,p4⟩:=ad;refine⟨ae,T,p1,p2,p3,λi g F=>?_⟩
   have⟨v,r1,r2,r3⟩:=p4 i g F;have⟨v0,_,s2,_⟩:=q4 i g F;exact⟨v,r1,aa R r2 s2,r3⟩
  have⟨af,R'⟩:=I.rel.new (o:= .cells B) (l:=l) I.rel.ext (λh o' l' F p=>⟨rfl,λeb=>M ⟨h,o',l',F,p,eb⟩⟩) U V hx ag;rw[<-e]at R';refine⟨c,b,⟨ht,G,C,R',iP.le_trans I.up af,I.defers,I.size,λs g hs=>by rw[O];exact I.slot s g hs,λi W ci f r y h4 K=>?_,λh l1 A=>?_,λh J l1 l2 f r hb=>?_⟩,O⟩
  .have⟨li,a1,a2,a3,a4,a5,a6⟩:=I.pend i W ci f r y V7 K;have q:(HH i).n≠(HH t).n:=λd=>by
    have:=E.apart (bM f) ht y e d;omega
   refine⟨li,by simp[b,q,a1],a2,?_,a4,by rw[O];exact a5,a6⟩
   rintro⟨h,o',l',F,p,eb⟩;rw[e,xB]at F;by_cases d:h=(HH t).n
   .subst d;rw[k]at p;cases p;exact q (I.inj _ _ _ _ a1 hp eb.symm)
   .rw[if_neg d]at F;rw[u h d]at p;exact a3 ⟨h,o',l',F,p,eb⟩
  .have q:h≠(HH t).n:=λd=>by subst d;simp[b]at A
   have A:pm h=some l1:=by simpa [b,q]using A
   have⟨i,W,ci,f,r,y,h4,K,h6⟩:=I.only h l1 A;refine⟨i,W,ci,f,r,y,?_,K,h6⟩
   by_cases e':i=t
   .subst e';exact absurd h6 q
   .omega
  .have f:pm h=some l1:=by
    by_cases d:h=(HH t).n
    .simp[b,d]at f
    .simpa [b,d]using f
   have r:pm J=some l2:=by
    by_cases d:J=(HH t).n
    .simp[b,d]at r
    .simpa [b,d]using r
   exact I.inj h J l1 l2 f r hb
theorem BA.adoptTo (E:Bf P tb w0 ih all n S HH gg):∀(d t k:Nat) (ρ pm:iP),BA w0 ρb n all (S 0) HH gg D a w t ρ pm->t+d=k->k<=all.length->(∀j o,t<=j->j<k->all[j]?=some o->vH o.op=false/\(isFloat o.op=true->D j=true))->
  ∃c b,BA w0 ρb n all (S 0) HH gg D a w k c b/\KH c b=KH ρ pm
 |0,t,k,ρ,pm,I,hd,hk,_=>by
  have:t=k:=V7
  subst this;exact⟨ρ,pm,I,rfl⟩
 |d+1,t,k,ρ,pm,I,hd,hk,h=>by
  have p:all[t]?=some all[t]:=zA1 V7;have⟨m,e⟩:=h t _ (zAf _) V7 p;have⟨i,f,q,s⟩:=I.adopt E p m e;have⟨l,g,r,u⟩:=BA.adoptTo E d (t+1) k i f q V7 hk (λj o m e=>h j o V7 e);exact⟨l,g,r,by rw[u,s]⟩
def Cl (all:V6 V5) (D:Nat->V4):Prop:=∀j k,D j=true->before (sX all) j k=true->k<all.length->D k=true
structure Vg (all:List Oper) (D:Nat->Bool) (k:Nat) (o:Oper):Prop where
 get:all[k]?=some o
 undone:D k=false
 past:∀j,before (sX all) k j=true->j<all.length->D j=true
theorem Vg.behind (C:Zr tb all (sX all)) (c:Cl all D) {k:Nat} {o:V5} (e:Vg all D k o) {j:Nat} {b:V5} (h:all[j]?=some b) (g:D j=true) (d:k<j):o.apart all.toArray b=true/\OE tb o.op b.op=true:=by
 cases f:before (sX all) j k with
 |false=>exact C.ind j k b o h e.get d f
 |true=>
  have:=c j k g f (bM e.get);rw[e.undone]at this;cases this
theorem Vg.ahead (C:Zr tb all (sX all)) {k:Nat} {o:V5} (f:Vg all D k o) {j:Nat} {b:V5} (e:all[j]?=some b) (c:j<k):D j=true\/b.apart all.toArray o=true/\OE tb b.op o.op=true:=by
 cases d:before (sX all) k j with
 |true=>exact .inl (f.past j d (bM e))
 |false=>exact .inr (C.ind k j o b f.get e c d)
theorem Vg.look (E:Bf P tb w0 ih all n S HH gg) (q:Cl all D) {k:Nat} {o:V5} (p:Vg all D k o) {s:Nat} {g:GV} (u:s∈o.looksAt all.toArray) (y:JJ (S k) s=some g):SlD all (S 0) gg D s g:=by
 have b:∀j c,D j=true->all[j]?=some c->c.dst=some s->j<k:=λj c d f e=>by
  rcases Nat.lt_trichotomy j k with h|h|h
  .exact h
  .subst h;rw[p.undone]at d;cases d
  .have⟨l,_⟩:=p.behind E.chk q f d h;exact absurd u ((Oper.apart_spec l).2.2 s e)
 rcases Pn E.trc k (Nat.le_of_lt (bM p.get)) y with⟨i,z,l,m,r,v,x⟩|⟨l,m⟩
 .refine .inl ⟨i,z,?_,m,r,v,λj c d f e=>?_⟩
  .rcases p.ahead E.chk m l with h|⟨h,_⟩
   .exact h
   .exact absurd u ((Oper.apart_spec h).1 s r)
  .have:=b j c d f e;rcases zAy i j with h|h
   .exact absurd e (x j c h this f)
   .exact h
 .exact .inr ⟨λj c d f e=>l j c (b j c d f e) f e,m⟩
theorem Vg.slot (C:Zr tb all (sX all)) (F:Cl all D) {K:GF} {k:Nat} {o:V5} (y:Vg all D k o) (x:∀d,o.dst=some d->d<n) (I:a.tmps.size=n) {z u:iP} (G:z.le u) (q:∀s g,SlD all K gg D s g->Rl z g (a.eval (.tmp s))) {v:V0} (Q:Rl u (gg k) v):
  ∀s g,SlD all K gg (ins D k) s g->Rl u g ((a.put o.dst v).eval (.tmp s)):=λs g L=>by
 have c:∀j r,D j=true->all[j]?=some r->o.dst=some s->r.dst=some s->j<k:=λj r m O f p=>by
  rcases Nat.lt_trichotomy j k with h|h|h
  .exact h
  .subst h;rw[y.undone]at m;cases m
  .have⟨b,_⟩:=y.behind C F O m h;exact absurd p ((Oper.apart_spec b).2.1 s f)
 by_cases f:o.dst=some s
 .have N:gg k=g:=by
   rcases L with⟨i,J,b,l,A,B,E⟩|⟨b,_⟩
   .have R:=E k o (Fz D k) y.get f;by_cases e:i=k
    .subst e;exact B
    .rw[EC e]at b;have:=c i J b l f A;omega
   .exact absurd f (b k o (Fz D k) y.get)
  rw[f,<-N];have H:=x s f;have:(a.put (some s) v).eval (.tmp s)=v:=by simp[Act.put,Act.eval,I,H]
  rw[this];exact Q
 .have M:(a.put o.dst v).eval (.tmp s)=a.eval (.tmp s):=Act.eval_put λd p e=>by cases e;exact f p
  rw[M];refine(q s g ?_).le G;rcases L with⟨i,J,b,l,A,B,E⟩|⟨b,l⟩
  .have e:i≠k:=λe=>by subst e;rw[y.get]at l;cases l;exact f A
   rw[EC e]at b;exact .inl ⟨i,J,b,l,A,B,λj r m=>E j r (Fy m)⟩
  .exact .inr ⟨λj r m=>b j r (Fy m),l⟩
theorem JC (a:Act) (d:V1 Tmp) (v:V0):(a.put d v).defers=a.defers/\(a.put d v).tmps.size=a.tmps.size:=by
 cases d with
 |none=>exact⟨rfl,rfl⟩
 |some d=>exact⟨rfl,by simp[Act.put]⟩
theorem BA.plain (E:Bf P tb w0 ih all n S HH gg) (u:Cl all D) (I:BA w0 ρb n all (S 0) HH gg D a w t ρ pm) {k:Nat} {o:V5} (q:Vg all D k o) (F:vH o.op=false) (C:isFloat o.op=true->HH (k+1)=HH k) {v:V0} (H:Rl (KH ρ pm) (gg k) v):
  BA w0 ρb n all (S 0) HH gg (ins D k) (a.put o.dst v) w t ρ pm:=by
 have⟨_,f,_⟩:=zM (E.op q.get);have⟨J,K⟩:=JC a o.dst v;refine⟨I.tm,λj A g b=>?_,λj A g x y=>Fy (I.flo j A g x y),I.rel,I.up,by rw[J];exact I.defers,by rw[K];exact I.size,q.slot E.chk u f I.size (iP.le_refl _) I.slot H,λi z r c m d s p=>?_,λh l G=>?_,I.inj⟩
 .have e:j≠k:=λe=>by subst e;rw[q.get]at g;cases g;rw[F]at b;cases b
  rw[EC e];exact I.lou j A g b
 .have e:i≠k:=λe=>by
   subst e;rw[q.get]at c;cases c;rw[C m]at d;exact abp d
  rw[EC e]at p;exact I.pend i z r c m d s p
 .have⟨i,z,r,c,m,d,s,p,B⟩:=I.only h l G;exact⟨i,z,r,c,m,d,s,Fy p,B⟩
def QZ (all:V6 V5) (D:Nat->V4) (t:Nat):Prop:=t=0\/∃o,all[t - 1]?=some o/\vH o.op=true/\D (t - 1)=true
theorem QZ.ins {k:Nat} (h:QZ all D t):QZ all (ins D k) t:=by
 rcases h with h|⟨o,b,c,d⟩
 .exact .inl h
 .exact .inr ⟨o,b,c,Fy d⟩
theorem JB {o:Op} (h:pureOp tb o=true):gI o=false:=by
 unfold pureOp at h;split at h<;>first|rfl|cases h
theorem Ks {o:Op} (h:isFloat o=true):gI o=true:=by
 unfold isFloat at h;split at h<;>first|rfl|cases h
theorem Ov {o:Op} (h:isFloat o=true):pureOp tb o=false:=by
 cases b:pureOp tb o with
 |false=>rfl
 |true=>have:=JB b;rw[Ks h]at this;cases this
theorem BA.reach (E:Bf P tb w0 ih all n S HH gg) (u:Cl all D) (I:BA w0 ρb n all (S 0) HH gg D a w t ρ pm) (i:QZ all D t) {k:Nat} {o:V5} (r:Vg all D k o) (z:pureOp tb o.op=false) (B:isFloat o.op=false) (m:rU o.op=false):
  ∃q p,BA w0 ρb n all (S 0) HH gg D a w k q p/\KH q p=KH ρ pm:=by
 have F:=bM r.get;have C:t<=k:=by
  rcases i with h|⟨d,x,f,s⟩
  .omega
  .rcases zAy (t - 1) k with h|h
   .omega
   .exfalso;by_cases e:t - 1=k
    .rw[e,r.undone]at s;cases s
    .have⟨_,A⟩:=r.behind E.chk u x s V7;simp only[vH,zA5,zB4]at f;have:pureOp tb d.op=false:=by
      cases v:pureOp tb d.op with
      |false=>rfl
      |true=>have:=JB v;rw[f.1]at this;cases this
     have c:rU d.op=false:=by
      cases v:rU d.op with
      |false=>rfl
      |true=>rw[FC v]at f;cases f.1
     simp[OE,z,this,f.1,f.2,m,c]at A
 refine I.adoptTo E (k - t) t k ρ pm V7 V7 λj d x f y=>?_;have g:D j=true\/gI d.op=false\/pureOp tb d.op=true:=by
  rcases r.ahead E.chk y f with h|⟨_,h⟩
  .exact .inl h
  .simp only[OE,z,B,m,Bool.or_false,Bool.and_false,Bool.or_eq_true,zA5,zB4]at h;rcases h with(h|h)|h
   .exact .inr (.inr h)
   .exact .inr (.inl h.1)
   .exact .inr (.inl (FC h.1))
 refine⟨?_,λl=>?_⟩
 .cases c:vH d.op with
  |false=>rfl
  |true=>
   exfalso;have b:=c;simp only[vH,zA5,zB4]at b;rcases g with h|h|h
   .have:=(I.lou j d y c).1 h;omega
   .rw[b.1]at h;cases h
   .have:=JB h;rw[b.1]at this;cases this
 .rcases g with h|h|h
  .exact h
  .rw[Ks l]at h;cases h
  .rw[Ov l]at h;cases h
theorem BA.frame (E:Bf P tb w0 ih all n S HH gg) (c:Cl all D) (I:BA w0 ρb n all (S 0) HH gg D a w t ρ pm) {k:Nat} {o:V5} (e:Vg all D k o):oK (KH ρ pm) n (Ir (S k) (o.looksAt all.toArray)) a:=
 ⟨I.defers,I.size,λs g b=>by
  rw[Hj]at b;by_cases d:s∈o.looksAt all.toArray
  .rw[if_pos d]at b;exact I.slot s g (e.look E c d b)
  .rw[if_neg d]at b;cases b⟩
theorem BA.frame' (E:Bf P tb w0 ih all n S HH gg) (e:Cl all D) {k:Nat} (I:BA w0 ρb n all (S 0) HH gg D a w k ρ pm) {o:V5} (i:Vg all D k o):oK ρ n (Ir (S k) (o.looksAt all.toArray)) a:=by
 have F:=I.frame E e i;have⟨u,v,z,p,m⟩:=E.ghost k (Nat.le_of_lt (bM i.get));refine⟨F.defers,F.size,λs g b=>?_⟩
 have q:=F.slot s g b;rw[Hj]at b;by_cases j:s∈o.looksAt all.toArray
 .rw[if_pos j]at b;refine ZO (λh x l f d=>?_) q (m.slot s g b);cases c:ρ h with
  |some y=>rw[BP c]at d;exact d
  |none=>
   rw[BO c]at d;have r:=I.low E d;rw[p.fresh h r]at f;cases f
 .rw[if_neg j]at b;cases b
theorem Bf.st (E:Bf P tb w0 ih all n S HH gg) {k:Nat} {o:V5} (b:all[k]?=some o):JI tb ih all o (Ir (S k) (o.looksAt all.toArray)) (HH k)=some (gg k,HH (k+1)):=by
 rw[<-E.trc.st k o b];exact Vx λs c=>by rw[Hj,if_pos c]
theorem BA.loads (E:Bf P tb w0 ih all n S HH gg) (N:Cl all D) (I:BA w0 ρb n all (S 0) HH gg D a w t ρ pm) (s:QZ all D t) {k:Nat} {o:V5} (z:Vg all D k o) (c:rU o.op=true) {h:Nat} {W:GO} (hh:ldH (S k) o.op=some h) (i:(HH k).get h=some W):
    ∃p K J,BA w0 ρb n all (S 0) HH gg D a w p K J/\KH K J=KH ρ pm/\(HH p).get h=some W:=by
  have hk:=bM z.get;have hq:=FC c;have ae:pureOp tb o.op=false:=by cases Q:o.op<;>rw[Q]at c<;>first|rfl|cases c
  have aa:isFloat o.op=false:=by cases Q:o.op<;>rw[Q]at c<;>first|rfl|cases c
  obtain⟨v,V⟩:∃v,(HH k).ver h=some v:=by
    have⟨p,hp,_⟩:=aH.1 (show Gx.ob ((HH k).t.get h) _=some W from i);exact⟨p.1,by unfold GH.ver;rw[hp];rfl⟩
  have⟨v1,v2⟩:=E.vrs k o h v z.get c hh V;rcases zAy k t with H|H
  · -- later than in the text
    rcases s with e|⟨b,y,B,q⟩
    · omega
    have F:=B;simp only[vH,zA5]at F;have r:before (sX all) (t - 1) k=false:=by
      cases r:before (sX all) (t - 1) k with
      |false=>rfl
      |true=>have:=N _ _ q r hk;rw[z.undone]at this;cases this
    have ab:t - 1≠k:=λe=>by rw[e,z.undone]at q;cases q
    have:=v2 (t - 1) b V7 y F.1 r;rw[show t - 1+1=t by omega]at this;exact⟨t,ρ,pm,I,rfl,by rw[<-E.same (Nat.le_of_lt H) I.tm V this];exact i⟩
  · -- earlier,or there
    let f:Nat->V5->V4:=λj b=>vH b.op||(isFloat b.op && !D j)
    have first:∀d g,g+d=k->t<=g->(∀j b,t<=j->j<g->all[j]?=some b->f j b=false)->∃p,t<=p/\p<=k/\(∀j b,t<=j->j<p->all[j]?=some b->f j b=false)/\(p=k\/∃A,all[p]?=some A/\f p A=true):=by
      intro d
      induction d with
      |zero=>exact λg e U h=>⟨g,U,V7,h,.inl V7⟩
      | succ d ihd =>
        intro g e U h;have m:all[g]?=some all[g]:=zA1 V7;cases hl:f g all[g]with
        |true=>exact⟨g,U,V7,h,.inr ⟨_,m,hl⟩⟩
        | false =>
          refine ihd (g+1) V7 V7 λj b y B C=>?_;by_cases e:j=g
          · subst e;rw[m]at C;cases C;exact hl
          · exact h j b y V7 C
    have⟨p,ac,ad,R,T⟩:=first (k - t) t V7 (zAf _) (λj b y B=>V7)
    have⟨Y,X,I1,e1⟩:=I.adoptTo E (p - t) t p ρ pm V7 V7 λj b y B C=>by
      have q:=R j b y B C;simp only[f,Bool.or_eq_false_iff,Bool.and_eq_false_iff,Bool.not_eq_false']at q;exact ⟨q.1, λO =>by
          rcases q.2 with L | L; · rw [O] at L; cases L
          · exact L⟩
    refine⟨p,Y,X,I1,e1,?_⟩
    rcases T with e|⟨A,l,x⟩
    · rw[e];exact i
    · simp only[f,Bool.or_eq_true,zA5,zB4]at x;have u:gI A.op=true:=by
        rcases x with h|h
        · simp only[vH,zA5]at h;exact h.1
        · exact Ks h.1
      have G:p<k:=by
        rcases zAy p k with h|h
        · exact h
        · have:p=k:=V7
          subst this;rw[z.get]at l;cases l;rw[hq]at u;cases u
      have M:D p=false:=by
        rcases x with h|h
        · cases hd:D p with
          |false=>rfl
          |true=>have:=(I.lou p A l h).1 hd;omega
        · exact h.2
      have r:before (sX all) k p=false:=by
        cases r:before (sX all) k p with
        |false=>rfl
        |true=>have:=z.past p r V7;rw[M]at this;cases this
      rw[E.same (Nat.le_of_lt G) (Nat.le_of_lt hk) (v1 p A G l u r) V];exact i
theorem BA.step (E:Bf P tb w0 ih all n S HH gg) (z:Cl all D) (I:BA w0 ρb n all (S 0) HH gg D a w t ρ pm) (m:QZ all D t) {k:Nat} {o:V5} (A:Vg all D k o) {Q:Exit->Act->V2->Prop} {K:Act->V2->Prop}
  (hK:∀a' w' t' aY O,BA w0 ρb n all (S 0) HH gg (ins D k) a' w' t' aY O->QZ all (ins D k) t'->K a' w'):Sx.wpOp P all.toArray Q k K a w:=by
 have hk:=bM A.get;have⟨_,ai,aS⟩:=zM (E.op A.get);have am:=E.st A.get;unfold Sx.wpOp;simp only[List.getElem?_toArray,A.get];cases hp:pureOp tb o.op with
 | true =>
  have Y:vH o.op=false:=by simp[vH,JB hp]
  have aE:isFloat o.op=false:=by
   cases hf:isFloat o.op with
   |false=>rfl
   |true=>rw[Ov hf]at hp;cases hp
  have F:=I.frame E z A;rcases Ju F am with⟨N,C⟩|⟨N,C,hH⟩
  .rw[if_pos N];have aF:OO o.op=true:=by
    rcases aS with h|⟨c,f,y,G⟩
    .exact h
    .have⟨a8,xs,ts⟩:=c;simp only at G;rw[y,G]at hp;cases hp
   have⟨_,v,hv,u⟩:=aaM (P:=P) E.tab F hp aF C;left;simp only[Oper.wp,u w,Oper.upon];exact hK _ _ t ρ pm (I.plain E z A Y (λh=>by rw[aE]at h;cases h) hv) m.ins
  .rw[if_neg (by rw[N];simp)];exact hK _ _ t ρ pm (I.plain E z A Y (λh=>by rw[aE]at h;cases h) (by rw[C];exact .un)) m.ins
 | false =>
  cases hf:isFloat o.op with
  | true =>
   have Y:vH o.op=false:=by simp[vH,hf]
   have F:=I.frame E z A;rcases Qx (P:=P) E.tab hf F am with⟨N,C,hH⟩|⟨N,cs,a',T',hH,hC,a0,u⟩
   .rw[if_neg (by rw[N];simp)];exact hK _ _ t ρ pm (I.plain E z A Y (λ_=>hH) (by rw[C];exact .un)) m.ins
   .rw[if_pos N];have⟨V,hV,aI⟩:=u w;left;simp only[Oper.wp,hV,Oper.upon];have aJ:t<=k:=by
     rcases zAy k t with h|h
     .have:=I.flo k o A.get hf h;rw[A.undone]at this;cases this
     .exact h
    let l:UO:=⟨w.heap.size,0,a'.size,.cells a' T',.cells cs⟩
    have e:UN w (w.alloc (.cells a' T')):=(Below.refl _ _).alloc (zAf _) _;have aX:ρ (HH k).n=none:=I.rel.fresh _ (E.mono' aJ V7);have aT:pm (HH k).n=none:=by
     cases U:pm (HH k).n with
     |none=>rfl
     |some W=>
      have⟨i,L,R,y,G,h3,h4,h5,h6⟩:=I.only _ _ U;have:=E.apart (bM y) hk h3 hH h6.symm;subst this;rw[A.undone]at h5;cases h5
    let O:=pm.upd (HH k).n l;have M:O (HH k).n=some l:=by simp[O,iP.upd]
    have J:∀h,h≠(HH k).n->O h=pm h:=λh hh=>by simp[O,iP.upd,hh]
    have ad:(KH ρ pm).le (KH ρ O):=λh W y=>by
     cases H:ρ h with
     |some l2=>rw[BP H]at y;rw[BP H];exact y
     |none=>
      rw[BO H]at y;rw[BO H,J h (λeh=>by subst eh;rw[aT]at y;cases y)];exact y
    have aP:KH ρ O (HH k).n=some l:=by rw[BO aX,M]
    have⟨p1,p2⟩:=JC a o.dst V;have az:∀h W,pm h=some W->W.b<w.heap.size:=λh W y=>by
     obtain⟨i,L,R,q1,q2,q3,q4,q5,rfl⟩:=I.only _ _ y;have⟨l2,r1,_,_,r4,_⟩:=I.pend i L R q1 q2 q3 q4 q5;rw[y]at r1;cases r1;exact(zA8.1 r4).1
    refine hK _ _ t ρ O ⟨I.tm,λj oj hj ak=>?_,λj oj hj ao aD=>Fy (I.flo j oj hj ao aD),I.rel.ext' e,I.up,by rw[p1];exact I.defers,by rw[p2];exact I.size,A.slot E.chk z ai I.size ad I.slot (aI _ aP),λi L R y G h3 h4 h5=>?_,λh W ar=>?_,λh h' W l2 y G hb=>?_⟩ m.ins
    .have e:j≠k:=λe=>by subst e;rw[A.get]at hj;cases hj;rw[Y]at ak;cases ak
     rw[EC e];exact I.lou j oj hj ak
    .by_cases ei:i=k
     .subst ei;rw[hH]at h3;have:=YU h3;subst this;refine⟨l,M,.inl I.rel.ext.size,?_,heap_alloc_new w _,⟨a',T',heap_alloc_new w _,rfl,by show 0+cs.length<=a'.size;omega,λj g C=>?_⟩,rfl⟩
      .rintro⟨h,o',l',C,ax,eb⟩;have⟨l2,r1,_,r3⟩:=I.rel.live h o' C;rw[ax]at r1;cases r1;have:=r3.lt;rw[eb]at this;exact absurd this (Nat.lt_irrefl _)
      .have⟨x,hx,aU⟩:=hC.r.get C;rw[zAj]at hx;exact⟨x,by show a'[0+j]?=some x;simpa using hx,aU.le ad,RF hC.one hx⟩
     .rw[EC ei]at h5;have⟨W,a1,a2,a3,a4,a5,a6⟩:=I.pend i L R y G h3 h4 h5;have aR:(HH i).n≠(HH k).n:=λeh=>ei (E.apart (bM y) hk h3 hH eh);have hb:=az _ _ a1;exact⟨W,by rw[J _ aR];exact a1,a2,a3,by rw[e.block _ hb];exact a4,a5.move ad (e.block _ hb),a6⟩
    .by_cases eh:h=(HH k).n
     .exact⟨k,o,cs,A.get,hf,hH,aJ,Fz D k,eh⟩
     .rw[J h eh]at ar;have⟨i,L,R,q1,q2,q3,q4,q5,q6⟩:=I.only h W ar;exact⟨i,L,R,q1,q2,q3,q4,Fy q5,q6⟩
    .by_cases eh:h=(HH k).n
     .by_cases ah:h'=(HH k).n
      .rw[eh,ah]
      .rw[J h' ah]at G;subst eh;rw[M]at y;cases y;have:=az _ _ G;rw[<-hb]at this;exact absurd this (Nat.lt_irrefl _)
     .rw[J h eh]at y;by_cases ah:h'=(HH k).n
      .subst ah;rw[M]at G;cases G;have:=az _ _ y;rw[hb]at this;exact absurd this (Nat.lt_irrefl _)
      .rw[J h' ah]at G;exact I.inj h h' W l2 y G hb
  | false =>
   cases aj:rU o.op with
   | true =>
    have Y:vH o.op=false:=by simp[vH,FC aj]
    have F0:=I.frame E z A;rcases Ju F0 am with⟨N,C⟩|⟨N,C,hH⟩
    .rw[if_pos N];have aG:∃T x,o.op = .load T x:=by
      cases ho:o.op<;>rw[ho]at aj<;>first|exact⟨_,_,rfl⟩|cases aj
     have⟨T,x,al⟩:=aG;rw[al]at C;have⟨va,aL,C⟩:=aH.1 (show ob (nK (Ir (S k) (o.looksAt all.toArray)) x) _=some (gg k,HH (k+1))from C);have⟨g',av,aQ⟩:=aH.1 C;have eg:g'=gg k:=by
      have:=congrArg (λo=>o.map Prod.fst) (show some (g',HH k)=some (gg k,HH (k+1))from aQ);simpa using this
     rw[eg]at av;have⟨q,U,hc⟩:=aH.1 (show ob va.asP _=some (gg k)from av);have⟨cs,aO,hc⟩:=aH.1 hc;have aA:=lO.1 aO;have aW:∀s,x = .tmp s->s∈o.looksAt all.toArray:=λs e=>List.mem_append_left _ (List.mem_filterMap.2 ⟨.tmp s,by rw[al,e];simp[Op.operands],rfl⟩);have aM:nK (S k) x=some va:=by
      rw[<-aL];cases x with
      |tmp s=>
       show JJ (S k) s=JJ (Ir (S k) (o.looksAt all.toArray)) s;rw[Hj,if_pos (aW s Z)]
      |_=>rfl
     have hh:ldH (S k) o.op=some q.1:=by
      rw[al];show ob (nK (S k) x) _=_;rw[aM];show ob va.asP _=_;rw[U];rfl
     have⟨p,ag,af,B,ap,aB⟩:=I.loads E z m A aj hh aA;have aK:=dQ F0 aL;have aV:Rl ag va (a.eval x):=by
      rw[IK U]at aK ⊢;have⟨l,Y,e⟩:=aK.ptr_inv;have⟨W,aC,_⟩:=B.rel.live _ _ aB;rw[<-ap,BP aC]at Y;cases Y;rw[e];exact .ptr _ aC
     have ay:Hy tb T va (HH p)=some (gg k):=by
      show ob va.asP _=_;rw[U];show ob ((HH p).cells q.1) _=_;rw[lO.2 aB];exact hc
     have⟨X,_,l,_,_,_,hX,u⟩:=Ps (P:=P) E.tab B.rel aV ay;left;have H:(execOp a.eval o).run P w = .ok (.value X) w:=by
      have:=u w Z;have⟨d,op,ty,a9,a7,gd⟩:=o;simp only at al;subst al;simp[execOp,this]
     simp only[Oper.wp,H,Oper.upon];exact hK _ _ t ρ pm (I.plain E z A Y (λh=>by rw[hf]at h;cases h) (by rw[<-ap];exact hX.le KX)) m.ins
    .rw[if_neg (by rw[N];simp)];exact hK _ _ t ρ pm (I.plain E z A Y (λh=>by rw[hf]at h;cases h) (by rw[C];exact .un)) m.ins
   |false=>
   have⟨ag,af,B,ap⟩:=I.reach E z m A hp hf aj;have F:=B.frame' E z A;cases ae:gI o.op with
   | false =>
    have Y:vH o.op=false:=by simp[vH,ae]
    have an:∀v,Rl ag (gg k) v->BA w0 ρb n all (S 0) HH gg (ins D k) (a.put o.dst v) w t ρ pm:=λv hv=>
     I.plain E z A Y (λh=>by rw[hf]at h;cases h) (by rw[<-ap];exact hv.le KX)
    rcases NG E.tab (E.call w0) (E.op A.get) F B.rel am with⟨N,hs⟩|⟨N,C,hH⟩
    .rw[if_pos N];left;rcases hs with⟨_,_,_,_,v,hv,u⟩|⟨_,_,_,v,_,_,_,_,_,hv,u⟩|⟨_,_,_,v,hv,u⟩|⟨U,_⟩
     .simp only[Oper.wp,u w,Oper.upon];exact hK _ _ t ρ pm (an v hv) m.ins
     .simp only[Oper.wp,u w Z,Oper.upon];exact hK _ _ t ρ pm (an v hv) m.ins
     .simp only[Oper.wp,u,Oper.upon];exact hK _ _ t ρ pm (an v hv) m.ins
     .rw[ae]at U;cases U
    .rw[if_neg (by rw[N];simp)];exact hK _ _ t ρ pm (an undef (by rw[C];exact .un)) m.ins
   | true =>
    have Y:vH o.op=true:=by simp[vH,ae,hf]
    have aq:∀(i:Nat) (L:V5) (R:V6 GV),all[i]?=some L->isFloat L.op=true->i≠k:=λi L R y G e=>by
     subst e;rw[A.get]at y;cases y;rw[hf]at G;cases G
    have aw:∀j o,all[j]?=some o->vH o.op=true->(ins D k j=true↔j<k+1):=λj oj hj ak=>by
     by_cases e:j=k
     .subst e;simp[Fz]
     .rw[EC e,B.lou j oj hj ak];omega
    have au:∀j o,all[j]?=some o->isFloat o.op=true->j<k+1->ins D k j=true:=λj oj hj ao aD=>by
     have:=aq j oj [] hj ao;exact Fy (B.flo j oj hj ao V7)
    have aa:∀h l,af h=some l->∃i o cs,all[i]?=some o/\isFloat o.op=true/\HH (i+1)=(HH i).new (.cells cs)/\k+1<=i/\ins D k i=true/\h=(HH i).n:=λh l ar=>by
     have⟨i,L,R,q1,q2,q3,q4,q5,q6⟩:=B.only h l ar;have:=aq i L R q1 q2;exact⟨i,L,R,q1,q2,q3,V7,Fy q5,q6⟩
    have ac:QZ all (ins D k) (k+1):= .inr ⟨o,by simpa using A.get,Y,by simp[Fz]⟩;rcases NG E.tab (E.call B.rel.base) (E.op A.get) F B.rel.rebase am with⟨N,hs⟩|⟨N,C,hH⟩
    .rw[if_pos N];left;rcases hs with⟨U,_⟩|⟨U,_⟩|⟨U,_⟩|⟨_,u⟩
     .rw[ae]at U;cases U
     .rw[ae]at U;cases U
     .rw[ae]at U;cases U
     refine OM (u _ λaN w2 v ad R2 hv=>hK _ _ (k+1) aN af ?_ ac);have⟨R3,ab⟩:=B.rel.back R2;have hj:(KH ag af).le (KH aN af):=λh l y=>by
      cases H:ag h with
      |some l2=>rw[BP H]at y;cases y;exact BP (ad _ _ H)
      |none=>
       rw[BO H]at y;obtain⟨i,L,R,q1,q2,q3,q4,q5,rfl⟩:=aa h l y;rw[BO (R2.fresh _ (E.mono' q4 (Nat.le_of_lt (bM q1))))];exact y
     have⟨p1,p2⟩:=JC a o.dst v;refine⟨hk,aw,au,R3,iP.le_trans B.up ad,by rw[p1];exact B.defers,by rw[p2];exact B.size,A.slot E.chk z ai B.size hj B.slot (hv.le KX),λi L R y G h3 h4 h5=>?_,aa,B.inj⟩
     rw[EC (aq i L R y G)]at h5;have⟨W,a1,a2,a3,a4,a5,a6⟩:=B.pend i L R y G h3 V7 h5;have hb:W.b<w.heap.size:=(zA8.1 a4).1;refine⟨W,a1,a2,?_,by rw[ab _ hb a3];exact a4,a5.move hj (ab _ hb a3),a6⟩
     rintro⟨h,o',l',C,ax,eb⟩;have⟨l2,r1,r2,_⟩:=R2.live h o' C;rw[ax]at r1;cases r1;rw[eb]at r2;rcases r2 with r2|r2
     .have:w.heap.size<=W.b:=r2;omega
     .exact a3 r2
    .rw[if_neg (by rw[N];simp)];have⟨p1,p2⟩:=JC a o.dst undef;refine hK _ _ (k+1) ag af ⟨hk,aw,au,by rw[hH];exact B.rel,B.up,by rw[p1];exact B.defers,by rw[p2];exact B.size,A.slot E.chk z ai B.size (iP.le_refl _) B.slot (by rw[C];exact .un),λi L R y G h3 h4 h5=>?_,aa,B.inj⟩ ac;rw[EC (aq i L R y G)]at h5;rw[hH];exact B.pend i L R y G h3 V7 h5
theorem BA.done (E:Bf P tb w0 ih all n S HH gg) (I:BA w0 ρb n all (S 0) HH gg D a w t ρ pm) (b:∀i,i<all.length->D i=true):∃f,ρb.le f/\lP w0 f (HH all.length) w/\oK f n (S all.length) a:=by
 have⟨d,e,k,_⟩:=I.adoptTo E (all.length - t) t all.length ρ pm (by have:=I.tm;omega) (zAf _) λj q m p c=>by
  refine⟨?_,λ_=>b j p⟩
  cases B:vH q.op with
  |false=>rfl
  |true=>have:=(I.lou j q c B).1 (b j p);omega
 refine⟨d,k.up,k.rel,k.defers,k.size,λs g A=>?_⟩
 have r:∀h,e h=none:=λh=>by
  cases C:e h with
  |none=>rfl
  |some l=>
   have⟨i,H,G,m,_,_,u,_⟩:=k.only h l C;have:=bM m;omega
 have c:KH d e=d:=by
  funext h;unfold KH;rw[r];cases d h<;>rfl
 have F:SlD all (S 0) gg D s g:=by
  rcases Pn E.trc all.length (zAf _) A with⟨i,o,m,p,v,u,x⟩|⟨m,p⟩
  .refine .inl ⟨i,o,b i m,p,v,u,λj q y c z=>?_⟩;rcases zAy i j with h|h
   .exact absurd z (x j q h (bM c) c)
   .exact h
  .exact .inr ⟨λj q y c=>m j q (bM c) c,p⟩
 have:=k.slot s g F;rwa[c]at this
theorem YH (E:Bf P tb w0 ih all n S HH gg) {Q:Exit->Act->V2->Prop} (hQ:∀c K M,ρb.le c->lP w0 c (HH all.length) M->oK c n (S all.length) K->Q .normal K M):
  ∀(d:Nat) (L:V6 Nat) (b:Array V4) (a:Act) (w:V2) (t:Nat) (ρ pm:iP),L.length<=d->b.size=all.length->(∀i,i<all.length->b.getD i false=false->i∈L)->Cl all (λj=>b.getD j false)->
  BA w0 ρb n all (S 0) HH gg (λj=>b.getD j false) a w t ρ pm->QZ all (λj=>b.getD j false) t->Sx.wpAny P .any all.toArray Q d b a w:=by
 intro d
 induction d with
 | zero =>
  intro L b a w t ρ pm G J g m I h;have hL:L=[]:=zAl V7;subst hL;have f:∀i,i<all.length->b.getD i false=true:=λi r=>by
   cases u:b.getD i false with
   |true=>rfl
   |false=>have:=g i r u;simp at this
  refine⟨?_,?_⟩
  .rw[List.eq_nil_iff_forall_not_mem];intro i r;have⟨l,o,s,_⟩:=mem_ready.1 r;have W:i<all.length:=by have:=(zA8.1 s).1;simpa using this
   have:=f i W;have hs:i<b.size:=V7
   simp[hs]at this l;rw[l]at this;cases this
  .have⟨c,l,N,O⟩:=I.done E f;exact hQ c a w l N O
 | succ d ihf =>
  intro L b a w t ρ pm G J g m I h;refine⟨λY=>?_,λk hk=>?_⟩
  .have f:∀i,i<all.length->b.getD i false=true:=by
    intro i
    induction i using Nat.strongRecOn with
    | ind i ihi =>
     intro r;cases u:b.getD i false with
     |true=>rfl
     | false =>
      exfalso;have s:all[i]?=some all[i]:=zA1 r;have H:i∈Region.ready .any all.toArray b:=by
       refine mem_ready.2 ⟨?_,all[i],V8,λe R v=>?_⟩
       .have hs:i<b.size:=V7
        simp[hs]at u ⊢;exact u
       .have U:e.on∈zY all[i]:=zB5.2 ⟨e,List.mem_filter.2 ⟨by simpa using R,v⟩,rfl⟩;have:=(E.chk.edge i _ s e.on U).1;exact ihi e.on this V7
      rw[Y]at H;simp at H
   have⟨c,l,N,O⟩:=I.done E f;exact hQ c a w l N O
  .have⟨l,o,X,q⟩:=mem_ready.1 hk;have s:all[k]?=some o:=by simpa using X
   have V:k<all.length:=bM s;have F:k<b.size:=V7
   have x:b.getD k false=false:=by simp[F]at l ⊢;exact l
   have hr:Vg all (λj=>b.getD j false) k o:=by
    refine⟨s,x,λj v B=>?_⟩
    have⟨_,e,R,hej⟩:=E.chk.trans k o s j v B;obtain⟨ed,T,rfl⟩:=zB5.1 R;have⟨z,A⟩:=List.mem_filter.1 T;have hl:=q ed (by simpa using z) A;rcases hej with rfl|hej
    .exact hl
    .exact m _ _ hl hej B
   have y:(λj=>(b.setIfInBounds k true).getD j false)=ins (λj=>b.getD j false) k:=by
    funext j;by_cases e:j=k
    .subst e;rw[Fz];simp[F]
    .rw[EC e];exact getD_set_ne false (Ne.symm e)
   refine I.step E m h hr λK M t' c aa I' p=>ihf (L.erase k) _ K M t' c aa ?_ (by simp[J]) (λi r u=>?_) ?_ (by rw[y];exact I') (by rw[y];exact p)
   .have hm:=g k V x;rw[List.length_erase_of_mem hm];omega
   .have e:i≠k:=λe=>by
     subst e;have:=congrFun y i;rw[Fz]at this;rw[u]at this;cases this
    have:b.getD i false=false:=by
     have:=congrFun y i;rw[EC e]at this;rw[<-this];exact u
    exact(List.mem_erase_of_ne e).2 (g i r this)
   .rw[y];intro j k' B v C;by_cases e:j=k
    .subst e;exact Fy (hr.past k' v C)
    .rw[EC e]at B;exact Fy (m j k' B v C)
theorem RD (hG:iR P tb) (e:∀w0:lJ gs,xA P w0 ih) (hm:P.follows .mixedOrders=true) {b:V6 V5} {id:Nat} (f:b.all (Ms n)=true) (N:chkF tb b (sX b)=true) {k:GS->RS} {s:GS} {p:Tc} {ρ:iP} {a:Act} {w:V2} {Q:Exit->Act->V2->Prop} (F:oK ρ n s.σ a) (R:lP w0 ρ s.H w) (h:(JS tb ih b k b s=some p/\JA b rU=true)\/evW tb ih b (sX b) k b 0 [] [] s=some p)
  (r:∀G m I L,k G=some p->ρ.le m->oK m n G.σ I->lP w0 m G.H L->Q .normal I L):(Code.region id b.toArray true).wpr none P Q a w:=by
 have W:b.all lW=true:=zA2.2 λo U=>(zM (zA2.1 f o U)).1;obtain⟨S,HH,gg,z,A,T,C,c⟩:∃S HH gg,S 0=s.σ/\HH 0=s.H/\Trc tb ih b b S HH gg/\(∀k y h v,b[k]?=some y->rU y.op=true->ldH (S k) y.op=some h->(HH k).ver h=some v->
   (∀j u,j<k->b[j]?=some u->gI u.op=true->before (sX b) k j=false->(HH j).ver h=some v)/\(∀j u,k<j->b[j]?=some u->gI u.op=true->before (sX b) j k=false->(HH (j+1)).ver h=some v))/\k ⟨S b.length,HH b.length⟩=some p:=by
  rcases h with⟨h,ho⟩|h
  .have⟨S,HH,gg,z,A,T,c⟩:=Qv b s h;refine⟨S,HH,gg,z,A,T,λk y h v r K _ _=>⟨λj u O q x B=>?_,λj u O q x B=>?_⟩,c⟩
   .rcases Lc ho r q K x with d|d
    .rw[d]at B;cases B
    .have:=((Mc N).trans j u q k d (bM r)).1;omega
   .rcases Lc ho r q K x with d|d
    .have:=((Mc N).trans k y r j d (bM q)).1;omega
    .rw[d]at B;cases B
  .have⟨S,HH,gg,z,A,T,V,c⟩:=NH b 0 [] [] s h;exact⟨S,HH,gg,z,A,T,λk y h v r K hh hv=>by have:=V.lo k y h v r K hh hv;simpa using this,c⟩
 rw[<-z]at F;rw[<-A]at R;have E:Bf P tb w0 ih b n S HH gg:=⟨hG,e,f,Mc N,T,C,QI hG (e w0) f T F R _ (zAf _)⟩
 have J:∀j,(Array.replicate b.length false).getD j false=false:=λj=>by
  by_cases h:j<b.length<;>simp[h]
 refine Jp W hm ?_;have Y:b.toArray.size=b.length:=V8
 rw[Y];refine YH (ρb:=ρ) E (λm I L h0 d M=>r ⟨S b.length,HH b.length⟩ m I L c h0 M d) b.length (List.range b.length) _ a _ 0 ρ (λ_=>none) V8 V8 (λi hi _=>zAg.2 hi) (λj k' q=>by simp only[J]at q;cases q) ?_ (.inl Z);refine⟨Nat.zero_le _,λj o _ _=>by simp only[J];simp,λj o _ _ h=>absurd h (Nat.not_lt_zero j),R.ext' ((Below.refl _ _).drew),iP.le_refl _,F.defers,F.size,λG g hs=>?_,λi o cs _ _ _ _ h5=>(by simp only[J]at h5;cases h5),λh l X=>(by cases X),λh h' l l' X=>(by cases X)⟩
 rcases hs with⟨i,o,d,_⟩|⟨_,M⟩
 .simp only[J]at d;cases d
 .exact(F.slot G g M).le KX
end
def LM (c:TB) (n:Nat):Code->V4
 | .skip | .exit _ | .ret=>true
 | .region _ ops dr=>ops.toList.all (Ms n)&&(!dr||chkF c ops.toList (sX ops.toList))
 | .seq a b=>LM c n a&&LM c n b
 | .cond _ a b=>LM c n a&&LM c n b
 | .block _ b=>LM c n b
 | .loop b=>LM c n b
 |_=>false
section
variable {P:Program} {G:GP} {tb:TB} {Fs:FT} {gs:FX} {w0:lJ gs}
def IE (P:Program) (c:Code) (Q:Exit->Act->V2->Prop) (a:Act) (w:V2):Prop:=
 ∀(b:Frame) (k:V6 Item) (d:V6 Frame),b.roundOf=(FR none).round->(FR none).fn b.fn->(FR none).room (d.length+1+0)->
  ∃e f g,Q e f g/\ArrivesIn (Machine.fenced P (FR none)) P (lone (b.atR a (.code c :: .inLoop c::k)) d w) b k d e f g
theorem IE.loop {c:Code} {Q:Exit->Act->V2->Prop} {a:Act} {w:V2} (h:IE P c Q a w):(Code.loop c).wpr none P Q a w:=by
 intro b k l f g i;have⟨e,j,n,m,d⟩:=h b k l f g i;exact⟨e,j,n,m,.of_steps (.one (fenced_calm g i Z) stepR_loop) d⟩
theorem IE.round {c:Code} {Q:Exit->Act->V2->Prop} {a:Act} {w:V2} (h:c.wpr none P (Exit.then (IE P c Q) Q) a w):IE P c Q a w:=by
 intro b k t p r s;have⟨e,f,g,m,d⟩:=h b (.inLoop c::k) t p r s;cases e with
 |normal=>
  have⟨o,n,q,j,i⟩:=m b k t p r s;exact⟨o,n,q,j,.of_steps (StepsIn.trans d (.one (fenced_calm r s Z) stepR_inLoop)) i⟩
 |exit id=>exact⟨_,f,g,m,.pass (x:= .inLoop c) Z (λ_ _=>.inl V8) d⟩
 |goto l=>exact⟨_,f,g,m,.pass (x:= .inLoop c) Z (λ_ _=>.inl V8) d⟩
 |ret=>exact⟨_,f,g,m,.pass (x:= .inLoop c) Z (λ_ _=>.inl V8) d⟩
 |panic u=>exact⟨_,f,g,m,.pass (x:= .inLoop c) Z (λ_ _=>.inl V8) d⟩
 |outgrown=>exact⟨_,f,g,m,.pass (x:= .inLoop c) Z (λ_ _=>.inl V8) d⟩
noncomputable def NI (a:Cx) (id:Nat) (s:GS):RS:=some ⟨.exit id,Hr s.σ (oY (GT a.env id)),s.H⟩
structure ZD {gs:FX} (w0:lJ gs) (tb:TB) (n:Nat) (cx:Cx) (k:GS->RS) (out:Tc) (ρ:iP) (Q:Exit->Act->World->Prop):Prop where
 k:∀s' ρ' a' w',k s'=some out->ρ.le ρ'->oK ρ' n s'.σ a'->lP w0 ρ' s'.H w'->Q .normal a' w'
 x:∀id s' ρ' a' w',NI cx id s'=some out->ρ.le ρ'->oK ρ' n s'.σ a'->lP w0 ρ' s'.H w'->Q (.exit id) a' w'
 r:∀s' ρ' a' w',VZ tb cx s'=some out->ρ.le ρ'->oK ρ' n s'.σ a'->lP w0 ρ' s'.H w'->Q .ret a' w'
def LS (P:Program) {gs:FX} (w0:lJ gs) (tb:TB) (l:LH):Prop:=∀b h j H d,l b h j H=some d->∀n k i a w Q,LM tb n b=true->mZ (oY (live (.loop b) 0 h)) j some=some k->oK i n k a->lP w0 i H w->
 (∀id e c f g,NI h id e=some d->i.le c->oK c n e.σ f->lP w0 c e.H g->Q (.exit id) f g)->
 (∀e c f g,VZ tb h e=some d->i.le c->oK c n e.σ f->lP w0 c e.H g->Q .ret f g)->IE P b Q a w
theorem Se {b:Cx} {s:GS} {a:Tc} (h:VZ tb b s=some a):a.e = .ret:=by
 have⟨c,_,h⟩:=aH.1 (show ob (Ui tb s b.res) _=some a from h);cases h;rfl
theorem Fj {b:Cx} {id:Nat} {s:GS} {a:Tc} (h:NI b id s=some a):a.e = .exit id:=by cases h;rfl
theorem VY {b:V6 Nat} {s:GS} {a:Tc} (h:Lj b s=some a):a.e = .normal/\a.vs=Hr s.σ b/\a.H=s.H:=by cases h;exact⟨rfl,rfl,rfl⟩
theorem VH {n:Nat} {m:Cx} {j:V6 Nat} {k:GS->RS} {o b:Tc} {l:iP} {Q:Exit->Act->V2->Prop} (L:ZD w0 tb n m k b l Q) (h:mZ j o.vs (λg=>k ⟨g,o.H⟩)=some b) {c:GS} {a:iP} {d:Act} {f:V2}
  (r:o.vs=Hr c.σ j) (q:o.H=c.H) (e:l.le a) (F:oK a n c.σ d) (R:lP w0 a c.H f):Q .normal d f:=by
 have⟨g,i,p⟩:=vC h;rw[r]at i;exact L.k ⟨g,o.H⟩ a d f p e (NQ F i) (by rw[q];exact R)
theorem HP {M:CH} {W:LH} (O:iR P tb) (V:P.follows .mixedOrders=true) (j:∀w0:lJ gs,xA P w0 M) (p:LS P w0 tb W) {n:Nat}:∀(c:Code) (m:Nat) (f:Cx) (k:GS->RS) (s:GS) (d:Tc) (q:iP) (a:Act) (w:V2) (Q:Exit->Act->V2->Prop),
  LM tb n c=true->evC tb M W c m f k s=some d->oK q n s.σ a->lP w0 q s.H w->ZD w0 tb n f k d q Q->c.wpr none P Q a w
 | .skip,m,f,k,s,d,q,a,w,Q,_,h,F,R,L=>UL (L.k s q a w h (iP.le_refl _) F R)
 | .region id ops dr, m, f, k, s, d, q, a, w, Q, ho, h, F, R, L =>by
  have l:ops.toList.all (Ms n)=true/\(!dr||chkF tb ops.toList (sX ops.toList))=true:=by simpa [LM]using ho
  have ad:ops.toList.all lW=true:=zA2.2 λo ac=>(zM (zA2.1 l.1 o ac)).1;have N:Bool.casesOn (motive:=λ_=>RS) (aip dr ops.toList) (JS tb M ops.toList k ops.toList s) (evW tb M ops.toList (sX ops.toList) k ops.toList 0 [] [] s)=some d:=h;have e:ops=ops.toList.toArray:=V8
  cases dr with
  |false=>
   rw[e];exact yX ad (KS O (j w0) ops.toList s q a w l.1 F R N L.k)
  | true =>
   rw[e];have hF:chkF tb ops.toList (sX ops.toList)=true:=by simpa using l.2
   have u:(JS tb M ops.toList k ops.toList s=some d/\JA ops.toList rU=true)\/evW tb M ops.toList (sX ops.toList) k ops.toList 0 [] [] s=some d:=by
    cases T:aip true ops.toList with
    |true=>rw[T]at N;exact .inr N
    |false=>
     rw[T]at N;have:(!JA ops.toList rU)=false:=T;exact .inl ⟨N,by simpa using this⟩
   exact RD O j V l.1 hF F R u L.k
 | .seq x y,m,f,k,s,d,q,a,w,Q,ho,h,F,R,L=>by
  have l:LM tb n x=true/\LM tb n y=true:=by simpa [LM]using ho
  refine Yf (HP O V j p x (live y m f) f (evC tb M W y m f k) s d q a w _ l.1 h F R ⟨λA t E I z g B C=>?_,L.x,L.r⟩);exact HP O V j p y m f k A d t E I Q l.2 z B C ⟨λs2 K X w2 J u=>L.k s2 K X w2 J (iP.le_trans g u),λid s2 K X w2 J u=>L.x id s2 K X w2 J (iP.le_trans g u),λs2 K X w2 J u=>L.r s2 K X w2 J (iP.le_trans g u)⟩
 | .cond x thn els, m, f, k, s, d, q, a, w, Q, ho, h, F, R, L =>by
  have l:LM tb n thn=true/\LM tb n els=true:=by simpa [LM]using ho
  have⟨v,hv,h⟩:=aH.1 (show ob (nK s.σ x) _=some d from h);have⟨b,U,h⟩:=aH.1 h;have⟨o,J,h⟩:=aH.1 (show ob _ (λo=>Ex.casesOn (motive:=λ_=>RS) o.e (mZ (oY m) o.vs λσ=>k ⟨σ,o.H⟩) (λ_=>some o) (some o))=some d from h);have hx:=dQ F hv;rw[IJ U]at hx;have L':ZD w0 tb n f (Lj (oY m)) o q Q:=by
   refine⟨λA t E I z g B C=>?_,λid A t E I z g B C=>?_,λA t E I z g B C=>?_⟩
   .have⟨D,e2,e3⟩:=VY z;rw[D]at h;exact VH L h e2 e3 g B C
   .have D:=Fj z;rw[D]at h;cases h;exact L.x id A t E I z g B C
   .have D:=Se z;rw[D]at h;cases h;exact L.r A t E I z g B C
  refine Jo hx.bool_inv (λab=>?_) (λaa=>?_)
  .rw[ab]at J;exact HP O V j p thn m f (Lj (oY m)) s o q a w Q l.1 J F R L'
  .rw[aa]at J;exact HP O V j p els m f (Lj (oY m)) s o q a w Q l.2 J F R L'
 | .block id b, m, f, k, s, d, q, a, w, Q, ho, h, F, R, L =>by
  have l:LM tb n b=true:=by simpa [LM]using ho
  have⟨o2,u,h⟩:=aH.1 (show ob (nB id (evC tb M W b m ⟨f.res,f.retm,(id,m)::f.env⟩ (Lj (oY m)) s)) (λo=>Ex.casesOn (motive:=λ_=>RS) o.e (mZ (oY m) o.vs λσ=>k ⟨σ,o.H⟩) (λ_=>some o) (some o))=some d from h);have⟨o,J,u⟩:=aH.1 (show ob (evC tb M W b m ⟨f.res,f.retm,(id,m)::f.env⟩ (Lj (oY m)) s) (λo=>Ex.casesOn (motive:=λ_=>RS) o.e (some o) (λi=>Bool.casesOn (motive:=λ_=>RS) (Nat.beq i id) (some o) (some ⟨.normal,o.vs,o.H⟩)) (some o))=some o2 from u);refine QR (HP O V j p b m _ (Lj (oY m)) s o q a w _ l J F R ⟨λA t E I z g B C=>?_,λi A t E I z g B C=>?_,λA t E I z g B C=>?_⟩)
  .have⟨D,e2,e3⟩:=VY z;rw[D]at u;cases u;rw[D]at h;exact VH L h e2 e3 g B C
  .have D:=Fj z;rw[D]at u;by_cases hi:i=id
   .subst hi;have U:Nat.beq i i=true:=V8
    simp only[U]at u;cases u;show Exit.inBlock i Q (.exit i) E I;simp only[Exit.inBlock,if_true];have S:o=⟨.exit i,Hr A.σ (oY (GT ((i,m)::f.env) i)),A.H⟩:=by cases z;rfl
    have he:GT ((i,m)::f.env) i=m:=by
     show(bif Nat.beq i i then m else GT f.env i)=m;rw[U];rfl
    rw[he]at S;exact VH (o:=⟨.normal,o.vs,o.H⟩) L h (by rw[S]) (by rw[S]) g B C
   .have U:Nat.beq i id=false:=qT hi;simp only[U]at u;cases u;rw[D]at h;cases h;show Exit.inBlock id Q (.exit i) E I;simp only[Exit.inBlock,if_neg hi];refine L.x i A t E I ?_ g B C;have he:GT ((id,m)::f.env) i=GT f.env i:=by
     show(bif Nat.beq id i then m else GT f.env i)=_;rw[qT (Ne.symm hi)];rfl
    rw[<-z];show NI f i A=some ⟨.exit i,Hr A.σ (oY (GT ((id,m)::f.env) i)),A.H⟩;rw[he];rfl
  .have D:=Se z;rw[D]at u;cases u;rw[D]at h;cases h;exact L.r A t E I z g B C
 | .loop b,m,f,k,s,d,q,a,w,Q,ho,h,F,R,L=>by
  have l:LM tb n b=true:=by simpa [LM]using ho
  have N:W b f (Hr s.σ (oY (live (.loop b) 0 f))) s.H=some d:=h;have ae:=Sb s.σ (oY (live (.loop b) 0 f));have⟨σ,Y⟩:=ae;exact IE.loop (p b f _ s.H d N n σ q a w Q l Y (NQ F Y) R L.x L.r)
 | .exit id,m,f,k,s,d,q,a,w,Q,_,h,F,R,L=>UK (L.x id s q a w h (iP.le_refl _) F R)
 | .ret,m,f,k,s,d,q,a,w,Q,_,h,F,R,L=>Ye (L.r s q a w h (iP.le_refl _) F R)
 | .rangeFunc _ _ _ _,m,f,k,s,d,q,a,w,Q,ho,_,_,_,_=>by simp[LM]at ho
 | .scope _,m,f,k,s,d,q,a,w,Q,ho,_,_,_,_=>by simp[LM]at ho
 | .label _,m,f,k,s,d,q,a,w,Q,ho,_,_,_,_=>by simp[LM]at ho
 | .goto _,m,f,k,s,d,q,a,w,Q,ho,_,_,_,_=>by simp[LM]at ho
 | .refuse _,m,f,k,s,d,q,a,w,Q,ho,_,_,_,_=>by simp[LM]at ho
theorem aev (j:iR P tb) {n:Nat} {s:GS} {f:iP} {a:Act} {w:V2} (F:oK f n s.σ a) (R:lP w0 f s.H w) {r:ResultVar} {g:GV} (h:ahW tb s r=some g):∃v,Rl f g v/\(J_ a.tmps r).run P w = .ok v w:=by
 cases r with
 |tmp t=>exact⟨_,F.slot t g h,by simp[J_,Act.eval]⟩
 |cell q T=>
  have⟨v,m,h⟩:=aH.1 (show ob (JJ s.σ q) _=some g from h);have d:=F.slot q v m;have⟨x,_,_,_,_,_,o,c⟩:=Ps (P:=P) j R d h;have c:=c w Z;refine⟨x,o,?_⟩
  have⟨p,k,_⟩:=aH.1 (show ob v.asP _=some g from h);rw[IK k]at d;have⟨l,u,e⟩:=d.ptr_inv;have i:a.tmps.getD q undef = .pointer (some ⟨l.b,l.off+p.2,none⟩):=e;rw[e]at c;simp only[Instr.loadAt,Instr.sureAddr]at c;simp only[J_,i,asAddr];simpa using c
theorem Uj (f:iR P tb) {n:Nat} {s:GS} {e:iP} {a:Act} {w:V2} (F:oK e n s.σ a) (R:lP w0 e s.H w):∀{l:V6 ResultVar} {gs:V6 GV},Ui tb s l=some gs->∃b,zX e gs b/\(l.mapM (J_ a.tmps)).run P w = .ok b w
 | [],gs,h=>by cases h;exact⟨[],.nil,V8⟩
 |r::l,gs,h=>by
  have⟨g,m,h⟩:=aH.1 (show ob (ahW tb s r) (λv=>ob (Ui tb s l) λb=>some (v::b))=some gs from h);have⟨i,c,h⟩:=aH.1 h;cases h;have⟨v,o,j⟩:=aev (P:=P) f F R m;have⟨b,d,k⟩:=Uj f F R c;exact⟨v::b,.cons o d,by simp[List.mapM_cons,j,k]⟩
theorem abw {b:iP} {gs:V6 GV} {a:V6 V0} (h:zX b gs a):Rl b (YW gs) (if h:a.toArray.size=1 then a.toArray[0]else .tuple a.toArray):=by
 cases gs with
 |nil=>rw[h.of_nil];exact Nv .nil
 | cons g gs =>
  obtain⟨v,a,rfl,c,d⟩:=h.of_cons;cases gs with
  |nil=>rw[d.of_nil];show Rl b g _;simpa using c
  |cons j gs=>
   obtain⟨k,i,rfl,e,f⟩:=d.of_cons;rw[dif_neg V8];exact Nv (.cons c (.cons e f))
theorem Lk (j:iR P tb) {fn:Func} {c:Cx} (d:c.res=fn.results.toList) {n:Nat} {s:GS} {g:iP} {a:Act} {w:V2} {b:Tc} (F:oK g n s.σ a) (R:lP w0 g s.H w) (h:VZ tb c s=some b):b.H=s.H/\∃v,Rl g (YW b.vs) v/\(results fn a.tmps).run P w = .ok v w:=by
 have⟨gs,e,h⟩:=aH.1 (show ob (Ui tb s c.res) _=some b from h);cases h;have⟨l,f,i⟩:=Uj (P:=P) j F R e;rw[d]at i;refine⟨rfl,_,abw f,?_⟩
 rw[Dg];have k:(fn.results.mapM (J_ a.tmps)).run P w = .ok l.toArray w:=by
  rw[Array.mapM_eq_mapM_toList];simp[i]
 simp[k]
structure LF (P:Program) (G:GP) (Fs:FT) {gs:FX} (w0:lJ gs):Prop where
 tab:iR P G.tab
 mixed:P.follows .mixedOrders=true
 fns:∀{f fn},Fs f=some fn->P.funcs[f]?=some fn/\aX P f/\(∀c,fn.body=some c->LM G.tab fn.ntmps c=true)/\fn.params.size+fn.nfree<=fn.ntmps
 ext:∀{f us H g H'},G.ext f us H=some (g,H')->∀ρ w vs,lP w0 ρ H w->zX ρ us vs->sY P w0 ρ f vs w g H'
 exn:∀{f us g},G.exn f us=some g->∀ρ w vs H,lP w0 ρ H w->zX ρ us vs->sY P w0 ρ f vs w g H
 /-- the function that catches returns 0 and 0 if its argument returns;its two variables are new objects -/
 cat:∀{ρ:iP} {g us cs w H H' c1 c2},lP w0 ρ H w->(∀ρ' w',ρ.le ρ'->lP w0 ρ' ((H.new (.cells [CR])).new (.cells [CR])) w'->∃x,sY P w0 ρ' g (us++cs) w' x H')->H'.cells H.n=some [c1]->H'.cells (H.n+1)=some [c2]->
  sY P w0 ρ G.cat [.func (.func g) us.toArray cs.toArray] w (.tup [CR,CR]) ((((H'.set H.n (.cells [CR])).set (H.n+1) (.cells [CR])).del H.n).del (H.n+1))
def Zt (P:Program) {gs:FX} (w0:lJ gs) (h:IH):Prop:=∀f d H a,h (.fn f) d H=some a->a.e = .ret->∀c w g,lP w0 c H w->zX c d g->
 aX P f/\Calls P f g.toArray w λe i=>∃v b,e = .returned v/\c.le b/\lP w0 b a.H i/\Rl b (YW a.vs) v
theorem TC {d:IH} (h:Zt P w0 d):xA P w0 (aiT d):=λf i H g j m q w p R n=>by
 have⟨o,k,b⟩:=aH.1 (show ob (d (.fn f) i H) _=some (g,j)from m);cases c:o.e with
 |normal=>rw[c]at b;cases b
 |exit id=>rw[c]at b;cases b
 |ret=>
  rw[c]at b;cases b;have⟨l,a⟩:=h f i H o k c q w p R n;exact .inr ⟨l _ w,a⟩
theorem Ol {B:IH} (j:LF P G Fs w0) (h:Zt P w0 B):xA P w0 (IN G B):=λf b H g z a t w i R e=>by
 unfold IN callQ at a;cases c:Nat.beq f G.cat with
 | false =>
  rw[c]at a;cases n:G.ext f b H with
  |some r=>
   simp only[n]at a;cases a;exact j.ext n t w i R e
  | none =>
   simp only[n]at a;cases s:G.exn f b with
   |some r=>
    simp only[s]at a;cases a;exact j.exn s t w i _ R e
   |none=>
    simp only[s]at a;exact TC h f b H g z a t w i R e
 | true =>
  rw[c]at a;have c:=zA4 c;subst c;cases b with
  |nil=>cases a
  | cons u b =>
   cases b with
   |cons _ _=>cases a
   |nil=>
    have⟨p,F,a⟩:=aH.1 (show ob u.asF _=some (g,z)from a);rw[mR,mR]at a;have⟨x,J,a⟩:=aH.1 a;have⟨O,k,a⟩:=aH.1 a;have⟨Q,l,a⟩:=aH.1 a;have⟨o,a⟩:=bZ.1 a;have⟨q,a⟩:=bZ.1 a;rw[CW,CW,Ki,Ki]at a;cases a;obtain⟨M,rfl⟩:=List.length_eq_one_iff.1 (zA4 o);obtain⟨N,rfl⟩:=List.length_eq_one_iff.1 (zA4 q);obtain⟨v,i,rfl,A,E⟩:=e.of_cons;rw[E.of_nil];rw[ZX F]at A;obtain⟨K,D,rfl,I,m⟩:=A.fn_inv;exact j.cat R (λy L d C=>⟨x.1,TC h p.1 _ _ x.1 x.2 J y L _ C ((I.le d).append (m.le d))⟩) k l
theorem ahl {x:IH} (p:∀w0:lJ gs,LF P G Fs w0) (B:∀w0:lJ gs,Zt P w0 x) (l:LS P w0 G.tab λb z=>x (.loop b z)) {f:Nat} {i:Func} {K:V6 GV} {H:GH} {d:Tc} (T:Fs f=some i) (h:YF G.tab (IN G x) (λb z=>x (.loop b z)) i K H=some d) (S:d.e = .ret) {u:iP} {w:V2} {t:V6 V0} (R:lP w0 u H w) (I:zX u K t):
  aX P f/\Calls P f t.toArray w λe y=>∃v a,e = .returned v/\u.le a/\lP w0 a d.H y/\Rl a (YW d.vs) v:=by
 have⟨M,N,O,Q⟩:=(p w0).fns T;refine⟨N,?_⟩
 have⟨k,E,h⟩:=aH.1 (show ob i.body _=some d from h);have⟨L,m,h⟩:=vC h;rw[List.range_eq_range']at m;have s:=Og m;have U:t.length<=i.ntmps:=by rw[<-I.len,s];exact Q
 refine zA M E ?_;have F:oK u i.ntmps L {tmps:=t.toArray++Array.replicate (i.ntmps - t.toArray.size) undef,defers:=[]}:=by
  refine Rh Z Q1 I (λj v q=>?_) m;have C:=bM q;rw[zB3,zB6 (by simpa using C)];simpa using q
 refine HP (p w0).tab (p w0).mixed (λw0=>Ol (p w0) (B w0)) l k _ _ _ ⟨L,H⟩ d u _ w _ (O k E) h F R ⟨λJ a D y r c n o=>?_,λid J a D y r c n o=>?_,λJ a D y r c n o=>?_⟩
 .have⟨A,v,q,g⟩:=Lk (fn:=i) (p w0).tab Z n o r;exact Sx.body_end (.inr Z) n.defers g ⟨v,a,rfl,c,by rw[A];exact o,q⟩
 .have:=Fj r;rw[S]at this;cases this
 .have⟨A,v,q,g⟩:=Lk (fn:=i) (p w0).tab Z n o r;exact Sx.body_end (.inl Z) n.defers g ⟨v,a,rfl,c,by rw[A];exact o,q⟩
theorem Wb (B:∀w0:lJ gs,LF P G Fs w0):∀(c:Nat) (w0:lJ gs),Zt P w0 (run G Fs c)/\LS P w0 G.tab λb d=>run G Fs c (.loop b d):=by
 intro c
 induction c with
 |zero=>exact λw0=>⟨λf us H i h=>(by cases h),λb d K H i h=>(by cases h)⟩
 | succ c ih =>
  have z:∀w0:lJ gs,Zt P w0 (run G Fs c):=λw0=>(ih w0).1;intro w0;have q:=(ih w0).2;refine⟨λf us H i h he V w K R hr=>?_,λb d K H i h n O V a w Q T I F R U k=>?_⟩
  .have⟨fn,E,h⟩:=aH.1 (show ob (Fs f) _=some i from h);exact ahl B z q E h he R hr
  .have D:mZ (oY (live (.loop b) 0 d)) K (λO=>ob (evC G.tab (IN G (run G Fs c)) (λb d=>run G Fs c (.loop b d)) b (live (.loop b) 0 d) d (Lj (oY (live (.loop b) 0 d))) ⟨O,H⟩) λo=>Ex.casesOn (motive:=λ_=>RS) o.e (run G Fs c (.loop b d) o.vs o.H) (λ_=>some o) (some o))=some i:=h;have⟨aa,l,D⟩:=vC D;rw[I]at l;cases l;have⟨o,Y,s⟩:=aH.1 D;refine IE.round (HP (B w0).tab (B w0).mixed (λw0=>Ol (B w0) (z w0)) q b _ d _ ⟨O,H⟩ o V a w _ T Y F R ⟨λt j x A p g u v=>?_,λid t j x A p g u v=>?_,λt j x A p g u v=>?_⟩)
   .have⟨y,W,X⟩:=VY p;rw[y,W,X]at s;have⟨S,m⟩:=Sb t.σ (oY (live (.loop b) 0 d));exact q b d _ t.H i s n S j x A Q T m (NQ u m) v (λid J r C L M N=>U id J r C L M (iP.le_trans g N)) (λJ r C L M N=>k J r C L M (iP.le_trans g N))
   .have y:=Fj p;rw[y]at s;cases s;exact U id t j x A p g u v
   .have y:=Se p;rw[y]at s;cases s;exact k t j x A p g u v
theorem aai (i:∀w0:lJ gs,LF P G Fs w0) {a f:Nat} {d:V6 GV} {H c:GH} {g:GV} (h:aah G Fs a f d H=some (g,c)) {b:iP} {w:V2} {e:V6 V0} (R:lP w0 b H w) (j:zX b d e):sY P w0 b f e w g c:=
 Ol (i w0) (Wb i a w0).1 f d H g c h b w e R j
theorem lP.start (b:lJ gs) (c:gs.env=[]):lP b (λ_=>none) H0 b.w:=⟨HE.refl _,λh o a=>(by cases a),λh g o k l j a=>(by cases a),λ_ _=>rfl,λh d=>absurd d (Nat.not_lt_zero h),λh v l f=>(by cases f),λi v e=>by rw[c]at e;simp at e⟩
end
end Go.Gx
namespace Go.Gx
open Go Go.Sx
noncomputable section
def oN (a:V6 GV) (H:GH):RS:=some ⟨.normal,a,H⟩
def oX (id:Nat) (a:V6 GV) (H:GH):RS:=some ⟨.exit id,a,H⟩
def oR (a:V6 GV) (H:GH):RS:=some ⟨.ret,a,H⟩
def jn (r:RS) (k:V6 GV->GH->RS):RS:=ob r λo=>Ex.casesOn (motive:=λ_=>RS) o.e (k o.vs o.H) (λ_=>some o) (some o)
def rG (v:GV) (b:V4) (H:GH) (X:OR):OR:=GV.casesOn (motive_1:=λ_=>OR) v (λ_ _=>none) (λq=>Bool.casesOn (motive:=λ_=>OR) (Xk q b) (some (.un,H)) X) (λ_ _=>none) (λ_ _=>none) none (λ_ _ _ _=>none) none (λ_=>none) (λ_ _ _=>none) none none (λ_=>none) (λ_=>none) (some (.un,H)) none (λ_=>none)
def U0 {R:Type} (a:V6 GV) (f:V1 R):V1 R:=List.casesOn (motive:=λ_=>V1 R) a (f) λ_ _=>none
def U1 {R:Type} (b:V6 GV) (f:GV->V1 R):V1 R:=List.casesOn (motive:=λ_=>V1 R) b none λa c=>List.casesOn (motive:=λ_=>V1 R) c (f a) λ_ _=>none
def U2 {R:Type} (c:V6 GV) (f:GV->GV->V1 R):V1 R:=List.casesOn (motive:=λ_=>V1 R) c none λa d=>List.casesOn (motive:=λ_=>V1 R) d none λb e=>List.casesOn (motive:=λ_=>V1 R) e (f a b) λ_ _=>none
def U3 {R:Type} (d:V6 GV) (f:GV->GV->GV->V1 R):V1 R:=List.casesOn (motive:=λ_=>V1 R) d none λa e=>List.casesOn (motive:=λ_=>V1 R) e none λb g=>List.casesOn (motive:=λ_=>V1 R) g none λc h=>List.casesOn (motive:=λ_=>V1 R) h (f a b c) λ_ _=>none
def U4 {R:Type} (e:V6 GV) (f:GV->GV->GV->GV->V1 R):V1 R:=List.casesOn (motive:=λ_=>V1 R) e none λa g=>List.casesOn (motive:=λ_=>V1 R) g none λb h=>List.casesOn (motive:=λ_=>V1 R) h none λc i=>List.casesOn (motive:=λ_=>V1 R) i none λd j=>List.casesOn (motive:=λ_=>V1 R) j (f a b c d) λ_ _=>none
def U5 {R:Type} (g:V6 GV) (f:GV->GV->GV->GV->GV->V1 R):V1 R:=List.casesOn (motive:=λ_=>V1 R) g none λa h=>List.casesOn (motive:=λ_=>V1 R) h none λb i=>List.casesOn (motive:=λ_=>V1 R) i none λc j=>List.casesOn (motive:=λ_=>V1 R) j none λd k=>List.casesOn (motive:=λ_=>V1 R) k none λe l=>List.casesOn (motive:=λ_=>V1 R) l (f a b c d e) λ_ _=>none
def U6 {R:Type} (h:V6 GV) (f:GV->GV->GV->GV->GV->GV->V1 R):V1 R:=List.casesOn (motive:=λ_=>V1 R) h none λa i=>List.casesOn (motive:=λ_=>V1 R) i none λb j=>List.casesOn (motive:=λ_=>V1 R) j none λc k=>List.casesOn (motive:=λ_=>V1 R) k none λd l=>List.casesOn (motive:=λ_=>V1 R) l none λe m=>List.casesOn (motive:=λ_=>V1 R) m none λg n=>List.casesOn (motive:=λ_=>V1 R) n (f a b c d e g) λ_ _=>none
def U9 {R:Type} (k:V6 GV) (f:GV->GV->GV->GV->GV->GV->GV->GV->GV->V1 R):V1 R:=List.casesOn (motive:=λ_=>V1 R) k none λa l=>List.casesOn (motive:=λ_=>V1 R) l none λb m=>List.casesOn (motive:=λ_=>V1 R) m none λc n=>List.casesOn (motive:=λ_=>V1 R) n none λd o=>List.casesOn (motive:=λ_=>V1 R) o none λe p=>List.casesOn (motive:=λ_=>V1 R) p none λg q=>List.casesOn (motive:=λ_=>V1 R) q none λh r=>List.casesOn (motive:=λ_=>V1 R) r none λi s=>List.casesOn (motive:=λ_=>V1 R) s none λj t=>List.casesOn (motive:=λ_=>V1 R) t (f a b c d e g h i j) λ_ _=>none
def Wh:vV->Code->Code
 | [],c=>c
 |0::p,.seq a _=>Wh p a
 |1::p,.seq _ b=>Wh p b
 |0::p,.cond _ a _=>Wh p a
 |1::p,.cond _ _ b=>Wh p b
 |0::p,.block _ b=>Wh p b
 |0::p,.loop b=>Wh p b
 |_,c=>c
def fG (a:Func) (p:vV):Code:=match a.body with
 |some c=>Wh p c
 |none=>.skip
def nD (b:Func) (a:Ng):Cx:=⟨b.results.toList,NS b.results.toList,a⟩
abbrev kN:=CH->QH->V6 GV->GH->RS
structure Of where
 fn:Nat->Option (Func×kN)
 lp:Nat->Option ((Code×Cx)×kN)
def Of.fns (T:Of) (f:Nat):V1 Func:=ob (T.fn f) λe=>some e.1
def Of.loop (T:Of) (a:LH):QH:=λi vs H=>ob (T.lp i) λe=>a e.1.1 e.1.2 vs H
def rr (T:Of) (G:GP) (n:Nat):V4->QH:=Nat.rec (motive:=λ_=>V4->QH) (λ_ _ _ _=>none) (λ_ a b t c H=>Bool.casesOn (motive:=λ_=>RS) b (ob (T.fn t) λe=>e.2 (callQ G (a false)) (a true) c H) (ob (T.lp t) λe=>e.2 (callQ G (a false)) (a true) c H)) n
structure Vj (T:Of) (tb:TB):Prop where
 fn:∀{f e},T.fn f=some e->∀(c:CH) (lp:LH) us H,e.2 c (T.loop lp) us H=YF tb c lp e.1 us H
 lp:∀{i e},T.lp i=some e->∀(c:CH) (lp:LH) us H,e.2 c (T.loop lp) us H=evL tb c lp e.1.1 e.1.2 us H
theorem ajE {T:Of} {G:GP} (h:Vj T G.tab):∀n,rr T G n false=(λf c H=>run G T.fns n (.fn f) c H)/\rr T G n true=T.loop (λb a=>run G T.fns n (.loop b a)):=by
 intro n
 induction n with
 |zero=>
  refine⟨rfl,?_⟩
  funext i vs H;show none=ob (T.lp i) λe=>none;cases T.lp i<;>rfl
 | succ n ih =>
  have⟨d,g⟩:=ih;constructor
  .funext f c H;show ob (T.fn f) (λe=>e.2 (callQ G (rr T G n false)) (rr T G n true) c H)=ob (T.fns f) λk=>YF G.tab (IN G (run G T.fns n)) (λb a=>run G T.fns n (.loop b a)) k c H;unfold Of.fns;cases j:T.fn f with
   |none=>rfl
   |some e=>
    show e.2 (callQ G (rr T G n false)) (rr T G n true) c H=YF G.tab (IN G (run G T.fns n)) (λb a=>run G T.fns n (.loop b a)) e.1 c H;rw[d,g];exact h.fn j _ _ c H
  .funext i vs H;show ob (T.lp i) (λe=>e.2 (callQ G (rr T G n false)) (rr T G n true) vs H)=ob (T.lp i) λe=>run G T.fns (n+1) (.loop e.1.1 e.1.2) vs H;cases j:T.lp i with
   |none=>rfl
   |some e=>
    show e.2 (callQ G (rr T G n false)) (rr T G n true) vs H=evL G.tab (IN G (run G T.fns n)) (λb a=>run G T.fns n (.loop b a)) e.1.1 e.1.2 vs H;rw[d,g];exact h.lp j _ _ vs H
theorem afy {a:Type} {f i:Nat} {x e:a} {R:a->Prop} (h:R x):(bif Nat.beq f i then some x else none)=some e->R e:=by
 cases Nat.beq f i
 .exact λh=>by cases h
 .exact λe=>by cases e;exact h
def okF (a:TB) (fn:Func):V4:=match fn.body with
 |some c=>LM a fn.ntmps c&&Nat.ble (fn.params.size+fn.nfree) fn.ntmps
 |none=>false
theorem Ue {tb:TB} {fn:Func} (h:okF tb fn=true):(∀c,fn.body=some c->LM tb fn.ntmps c=true)/\fn.params.size+fn.nfree<=fn.ntmps:=by
 unfold okF at h;cases a:fn.body with
 |none=>rw[a]at h;cases h
 |some c=>
  rw[a]at h;simp only[zA5]at h;exact⟨λd b=>by cases b;exact h.1,by simpa using h.2⟩
def aaj (T:Of) (G:GP) (b:Nat) (f:FuncId) (a:V6 GV) (H:GH):OR:=callQ G (rr T G b false) f a H
theorem aak {T:Of} {G:GP} (h:Vj T G.tab) (a:Nat) (f:FuncId) (b:V6 GV) (H:GH):aaj T G a f b H=aah G T.fns a f b H:=by
 unfold aaj aah IN;rw[(ajE h a).1]
end
end Go.Gx
section
set_option maxRecDepth 100000
namespace Go.Gx
open Go Go.Sx Go.Proofs
noncomputable section
abbrev y:=CV
def gB (f:Func) (c:CH) (_:QH) (a:V6 GV) (H:GH):RS:=YF y c (λ_ _ _ _=>none) f a H
def LJ (f:Func) (i:Nat) (c:CH) (q:QH) (a:V6 GV) (H:GH):RS:=YF y c (λ_ _ b H=>q i b H) f a H
def gL (e:Code×Cx) (i:Nat) (c:CH) (q:QH) (a:V6 GV) (H:GH):RS:=evL y c (λ_ _ b H=>q i b H) e.1 e.2 a H
def gL1 (e:Code×Cx) (n i j:Nat) (c:CH) (q:QH) (d:V6 GV) (H:GH):RS:=evL y c (λ_ b a H=>bif Nat.beq b.env.length n then q i a H else q j a H) e.1 e.2 d H
def gD (e:Code×Cx) (i:Nat):(Code×Cx)×kN:=(e,gL e i)
def gD1 (e:Code×Cx) (n i j:Nat):(Code×Cx)×kN:=(e,gL1 e n i j)
def rid (c:Code):Nat:=match c with|.region n _ _=>n | .seq a _=>rid a | .block _ a=>rid a | .loop a=>rid a|_=>0
def sel (l:Ng) (n:Nat):Nat:=List.rec (motive:=λ_=>Nat) 0 (λp _ a=>bif Nat.beq p.1 n then p.2 else a) l
def gBs (f:Func) (l:Ng) (c:CH) (q:QH) (a:V6 GV) (H:GH):RS:=YF y c (λb _ d H=>q (sel l (rid b)) d H) f a H
def gDs (e:Code×Cx) (l:Ng):(Code×Cx)×kN:=(e,λc q a H=>evL y c (λb _ d H=>q (sel l (rid b)) d H) e.1 e.2 a H)
def i (n:Nat):GV:= .int .i64 (.ofNat n)
def bC (q:V4) (f t:RS):RS:=Bool.casesOn (motive:=λ_=>RS) q f t
def K (c:CH) (f:Nat) (a:V6 GV) (H:GH) (k:GV->GH->RS):RS:=Ae (c f a H) k
def bn (a:BinOp) (T:Nat) (v u:GV) (k:GV->RS):RS:=ob (Wp y a T v u) k
def ld (T:Nat) (v:GV) (H:GH) (k:GV->RS):RS:=ob (Hy y T v H) k
def fd (T n:Nat) (v:GV) (k:GV->RS):RS:=ob (Wt y T n v) k
def ix (T:Nat) (v u:GV) (k:GV->RS):RS:=ob (Wu y T v u) k
def ln (T:Nat) (v:GV) (k:GV->RS):RS:=ob (abY y T v) k
def ex (n:Nat) (v:GV) (k:GV->RS):RS:=ob (aim n v) k
def bd (T:Nat) (l:V6 (Nat×GV)) (k:GV->RS):RS:=ob (Wr y T l) k
theorem rN {a:Type} {f n:Nat} {x y:V1 a} {e:a} {R:Prop} (b:x=some e->R) (c:y=some e->R):tN f n x y=some e->R:=by
 unfold tN;cases Nat.blt f n
 .exact c
 .exact b
theorem rL {c:Type} {f n:Nat} {x e:c} {R:Nat->c->Prop} (h:R n x):tL f n x=some e->R f e:=by
 intro a;unfold tL at a;cases b:Nat.beq f n with
 |false=>rw[b]at a;cases a
 |true=>rw[b]at a;cases a;rw[zA4 b];exact h
def s43:Ng:=[(6,8),(12,9),(19,10)]
def B45 (c:CH) (g:QH) (d:V6 GV) (H:GH):RS:=U2 d λe f=>
 bn .add 3 e (i 1) λa=>
 bn .eql 3 a f λb=>
 oR [b] H
def B48 (c:CH) (e:QH) (b:V6 GV) (H:GH):RS:=U3 b λg h d=>
 Ae (Wq d H) λf a=>
 oR [] a
def B50 (c:CH) (u:QH) (z:V6 GV) (H:GH):RS:=U2 z λs p=>
 bn .lss 3 p (i 0) λd=>
 Ae (rG d false H (some (p,H))) λv q=>
 Ae (rG d false q (some (s,q))) λw r=>
 Ae (rG d false r (ob (abY y 38 w) λt=>some (t,r))) λx a=>
 Ae (rG d false a (ob (Wp y .geq 3 v x) λj=>some (j,a))) λn b=>
 ob (UD d (.bool true) n) λo=>
 ob (GV.asB o) λm=>jn (bC m (oN [s,p] b) (oR [(.int .i64 (.negSucc 0))] b)) λe k=>U2 e λg h=>jn (nB 0 (u 11 [g,h,(i 1)] k)) λf l=>U0 f (oR [(.int .i64 (.negSucc 0))] l)
def L11 (c:CH) (S:QH) (T:V6 GV) (H:GH):RS:=U3 T λa b q=>jn (ln 38 a λG=>
 bn .lss 3 b G λI=>
 ob (GV.asB I) λD=>jn (bC D (oX 0 [] H) (oN [a,b,q] H)) λm g=>U3 m λd e r=>jn (nB 1 (ix 38 d e λJ=>
 fd 126 0 J λL=>
 ld 3 L g λM=>
 K c 54 [M] g λk h=>
 bn .lss 3 k (i 0) λN=>
 ob (GV.asB N) λE=>jn (bC E (oN [d,e,r,k] h) (oR [(.int .i64 (.negSucc 0))] h)) λn j=>U4 n λs f t u=>bn .sub 3 u (i 1) λO=>
 bn .add 3 t O λl=>
 bn .eql 3 l (i 0) λP=>
 ob (GV.asB P) λF=>jn (bC F (oN [s,f,l] j) (bn .add 3 f (i 1) λQ=>
 oR [Q] j)) λo B=>U3 o λv w x=>oN [v,w,x] B)) λp C=>U3 p λy z A=>bn .add 3 z (i 1) λR=>
 oN [y,R,A] C) (S 11)
def B52 (c:CH) (g:QH) (e:V6 GV) (H:GH):RS:=U1 e λf=>
 K c 110 [f,(.fn 111 [] [])] H λa b=>
 ex 0 a λd=>
 ex 1 a λh=>
 oR [d] b
def B53 (c:CH) (g:QH) (e:V6 GV) (H:GH):RS:=U1 e λf=>
 K c 110 [f,(.fn 112 [] [])] H λa b=>
 ex 0 a λd=>
 ex 1 a λh=>
 oR [d] b
def B74 (c:CH) (e:QH) (f:V6 GV) (H:GH):RS:=U2 f λg h=>
 jn (nB 0 (e 16 [h,(.int .u32 (.ofNat 0)),g,(i 0)] H)) λa d=>U1 a λb=>oR [b] d
def L16 (c:CH) (I:QH) (J:V6 GV) (H:GH):RS:=U4 J λG D E F=>jn (bn .lss 3 F E λy=>
 ob (GV.asB y) λw=>jn (bC w (oX 0 [D] H) (oN [G,D,E,F] H)) λh t=>U4 h λb e f a=>jn (nB 1 (ob (GV.asF b) λd=>Ae (c d.1 (d.2.1++[a]++d.2.2) t) λz g=>
 ob (GV.asB z) λx=>jn (bC x (oN [b,e,f,a] g) (bn .shl 46 (.int .u32 (.ofNat 1)) a λA=>
 bn .or 46 e A λB=>
 oN [b,B,f,a] g)) λj u=>U4 j λl m n o=>oN [l,m,n,o] u)) λk v=>U4 k λp q r s=>bn .add 3 s (i 1) λC=>
 oN [p,q,r,C] v) (I 16)
def B75 (c:CH) (l:QH) (g:V6 GV) (H:GH):RS:=U3 g λh j k=>
 ld 88 j H λb=>
 ld 30 k H λd=>
 K c 31 [b,d,h] H λe a=>
 bn .geq 3 e (i 0) λf=>
 oR [f] a
def B77 (c:CH) (k:QH) (h:V6 GV) (H:GH):RS:=U1 h λj=>
 Ae (Wq j H) λd a=>
 ld 25 d a λe=>
 K c 43 [e] a λf b=>
 bn .eql 35 f (i 0) λg=>
 oR [g] b
def B81 (c:CH) (g:QH) (d:V6 GV) (H:GH):RS:=U3 d λe f k=>
 Ae (Wq e H) λh a=>
 Ae (Wq f a) λj b=>
 oR [(i 0),(i 1)] b
def B87 (c:CH) (e:QH) (f:V6 GV) (H:GH):RS:=U2 f λg h=>
 jn (nB 0 (e 18 [g,h] H)) λa d=>U1 a λb=>oR [b] d
def L18 (c:CH) (ql:QH) (us:V6 GV) (H:GH):RS:=U2 us λa6 R=>jn (ln 9 a6 λt8=>
 bn .lss 3 R t8 λt9=>
 ob (GV.asB t9) λaa=>jn (bC aa (oX 0 [R] H) (oN [a6,R] H)) λm e=>U2 m λb d=>jn (nB 1 (ob (vAt y 9 b d) λa=>
 jn (nB 2 (bn .eql 5 a (.int .u8 (.ofNat 32)) λj=>
 ob (GV.asB j) λab=>jn (bC ab (bn .eql 5 a (.int .u8 (.ofNat 9)) λk=>
 ob (GV.asB k) λac=>jn (bC ac (bn .eql 5 a (.int .u8 (.ofNat 10)) λl=>
 ob (GV.asB l) λad=>jn (bC ad (bn .eql 5 a (.int .u8 (.ofNat 13)) λag=>
 oN [b,d,a,ag] e) (oN [b,d,a,l] e)) λn S=>U4 n λv w x z=>oN [v,w,x,z] S) (oN [b,d,a,k] e)) λo T=>U4 o λA B C D=>oN [A,B,C,D] T) (oN [b,d,a,j] e)) λp g=>U4 p λh f E F=>ob (GV.asB F) λae=>jn (bC ae (bn .eql 5 E (.int .u8 (.ofNat 35)) λai=>
 ob (GV.asB ai) λaf=>jn (bC af (oR [f] g) (jn (nB 3 (ql 19 [h,f] g)) λq U=>U2 q λG I=>oN [G,I] U)) λr V=>U2 r λJ K=>oN [J,K] V) (bn .add 3 f (i 1) λah=>
 oN [h,ah] g)) λs W=>U2 s λL M=>oN [L,M] W)) λt X=>U2 t λN O=>oN [N,O] X)) λu Y=>U2 u λP Q=>oN [P,Q] Y) (ql 18)
def L19 (c:CH) (C:QH) (D:V6 GV) (H:GH):RS:=U2 D λb d=>jn (ln 9 b λu=>
 bn .lss 3 d u λa=>
 Ae (rG a true H (some (b,H))) λv e=>
 Ae (rG a true e (some (d,e))) λw f=>
 Ae (rG a true f (ob (vAt y 9 v w) λp=>some (p,f))) λx g=>
 Ae (rG a true g (ob (Wp y .neq 5 x (.int .u8 (.ofNat 10))) λq=>some (q,g))) λz h=>
 ob (UD a z (.bool false)) λA=>
 ob (GV.asB A) λt=>jn (bC t (oX 3 [b,d] h) (oN [b,d] h)) λj r=>U2 j λl m=>jn (nB 4 (bn .add 3 m (i 1) λB=>
 oN [l,B] r)) λk s=>U2 k λn o=>oN [n,o] s) (C 19)
def B93 (c:CH) (d:QH) (e:V6 GV) (H:GH):RS:=U4 e λf g h j=>
 jn (nB 0 (d 21 [f,g,h,j,(i 0)] H)) λa b=>U0 a (oR [] b)
def L21 (c:CH) (V:QH) (us:V6 GV) (H:GH):RS:=U5 us λS T U p q=>jn (ob (GV.nilck S) λG=>
 fd 111 0 G λI=>
 K c 138 [I] H λJ k=>
 bn .eql 9 J T λL=>
 ob (GV.asB L) λE=>jn (bC E (oX 0 [] k) (oN [S,T,U,p,q] k)) λm l=>U5 m λa f b g d=>jn (nB 1 (bn .eql 3 d b λM=>
 ob (GV.asB M) λF=>jn (bC F (oN [a,f,b,g,d] l) (ob (GV.nilck a) λN=>
 fd 111 0 N λO=>
 K c 97 [O,(i 3)] l λW z=>
 oN [a,f,b,g,d] z)) λn A=>U5 n λh r s j t=>ob (GV.nilck h) λP=>
 fd 111 0 P λQ=>
 K c 141 [Q] A λX B=>
 ob (GV.asF j) λe=>Ae (c e.1 (e.2.1++[]++e.2.2) B) λY C=>
 oN [h,r,s,j,t] C)) λo D=>U5 o λu v w x y=>bn .add 3 y (i 1) λR=>
 oN [u,v,w,x,R] D) (V 21)
def B96 (c:CH) (j:QH) (g:V6 GV) (H:GH):RS:=U1 g λh=>
 ob (GV.nilck h) λa=>
 fd 109 1 a λb=>
 ld 103 b H λd=>
 ln 103 d λe=>
 bn .eql 3 e (i 0) λf=>
 oR [f] H
def s98:Ng:=[(5,23),(13,24)]
def akn (c:CH) (q:QH) (u:V6 GV) (H:GH):RS:=U2 u λm v=>
 K c 50 [m,(i 0)] H λr n=>
 ln 38 m λs=>
 bn .neq 3 r s λt=>
 ob (GV.asB t) λp=>jn (bC p (oN [m,v] n) (oR [(i 0),(.bool false)] n)) λl o=>U2 l λa e=>ln 38 a λg=>
 bn .sub 3 g (i 1) λh=>
 jn (nB 0 (q 33 [a,e,.snil,h] o)) λd b=>U1 d λf=>ix 26 f (i 0) λj=>
 ld 3 j b λk=>
 oR [k,(.bool true)] b
def L33 (c:CH) (ql:QH) (us:V6 GV) (H:GH):RS:=U4 us λt u e f=>jn (bn .geq 3 f (i 0) λL=>
 ob (GV.asB L) λJ=>jn (bC J (oX 0 [e] H) (oN [t,u,e,f] H)) λq m=>U4 q λg v a h=>jn (nB 1 (ln 26 a λM=>
 ix 38 g h λN=>
 fd 126 0 N λO=>
 ld 3 O m λP=>
 K c 54 [P] m λQ n=>
 bn .sub 3 M Q λo=>
 ob (Jn y 26 a (some o) none n) λp=>
 ln 26 p λR=>
 jn (nB 2 (ql 34 [g,v,a,h,o,(i 0),p,R,(i 0)] n)) λr b=>U6 r λj k w l x z=>ob (Jn y 26 w none (some x) b) λS=>
 ix 38 j l λT=>
 fd 126 0 T λU=>
 ld 3 U b λV=>
 ob (GV.asF k) λd=>Ae (c d.1 (d.2.1++[V,z]++d.2.2) b) λW E=>
 Ae (JG y 26 1 [(0,W)] E) λX F=>
 Ae (Za y 26 26 S X F) λY G=>
 oN [j,k,Y,l] G)) λs I=>U4 s λA B C D=>bn .sub 3 D (i 1) λaa=>
 oN [A,B,C,aa] I) (ql 33)
def L34 (c:CH) (O:QH) (P:V6 GV) (H:GH):RS:=U9 P λd e f g h j s k l=>jn (bn .lss 3 l k λK=>
 ob (GV.asB K) λJ=>jn (bC J (oX 2 [d,e,f,g,h,j] H) (oN [d,e,f,g,h,j,s,k,l] H)) λq o=>U9 q λt u v w x y m z n=>jn (nB 3 (ix 26 m n λL=>
 ld 3 L o λM=>
 ob (Wv y M) λN=>
 oN [t,u,v,w,x,N,m,z,n] o)) λr I=>U9 r λA B C D E F G a b=>bn .add 3 b (i 1) λp=>
 oN [A,B,C,D,E,F,G,a,p] I) (O 34)
def ako (c:CH) (e:QH) (b:V6 GV) (H:GH):RS:=U2 b λf d=>
 bn .add 3 d (i 1) λa=>
 oR [a] H
def akp (c:CH) (m:QH) (k:V6 GV) (H:GH):RS:=U2 k λl d=>
 K c 56 [l] H λh b=>
 ob (GV.asB h) λg=>jn (bC g (oN [d] b) (bn .add 3 d (i 1) λj=>
 oR [j] b)) λa f=>U1 a λe=>oR [e] f
def akq (c:CH) (e:QH) (g:V6 GV) (H:GH):RS:=U3 g λh i j=>
 ld 3 i H λf=>
 jn (nB 0 (e 36 [h,j,f] H)) λa d=>U1 a λb=>oR [b] d
def L36 (c:CH) (K:QH) (L:V6 GV) (H:GH):RS:=U3 L λJ s b=>jn (ld 9 s H λz=>
 ln 9 z λA=>
 bn .lss 3 b A λa=>
 Ae (rG a true H (some (J,H))) λB d=>
 Ae (rG a true d (ob (Hy y 9 s d) λt=>some (t,d))) λC f=>
 Ae (rG a true f (some (b,f))) λD g=>
 Ae (rG a true g (ob (vAt y 9 C D) λu=>some (u,g))) λE h=>
 Ae (rG a true h (ob (GV.asF B) λe=>Ae (c e.1 (e.2.1++[E]++e.2.2) h) MZ)) λF j=>
 ob (UD a F (.bool false)) λG=>
 ob (GV.asB G) λx=>jn (bC x (oX 0 [b] j) (oN [J,s,b] j)) λk v=>U3 k λm n o=>jn (nB 1 (bn .add 3 o (i 1) λI=>
 oN [m,n,I] v)) λl w=>U3 l λp q r=>oN [p,q,r] w) (K 36)
def akr (c:CH) (E:QH) (D:V6 GV) (H:GH):RS:=U1 D λv=>
 ob (GV.nilck v) λx=>
 fd 109 1 x λz=>
 ld 103 z H λA=>
 ln 103 A λB=>
 bn .eql 3 B (i 0) λC=>
 ob (GV.asB C) λw=>jn (bC w (oN [v] H) (oR [(.str 0 0)] H)) λu b=>U1 u λa=>ob (GV.nilck a) λd=>
 fd 109 0 d λe=>
 ld 9 e b λf=>
 ob (GV.nilck a) λg=>
 fd 109 1 g λh=>
 ld 103 h b λj=>
 ix 103 j (i 0) λk=>
 fd 162 1 k λl=>
 ld 3 l b λm=>
 ob (GV.nilck a) λn=>
 fd 109 1 n λo=>
 ld 103 o b λp=>
 ix 103 p (i 0) λq=>
 fd 162 2 q λr=>
 ld 3 r b λs=>
 ob (Jn y 9 f (some m) (some s) b) λt=>
 oR [t] b
def aks (c:CH) (h:QH) (l:V6 GV) (H:GH):RS:=U1 l λb=>
 ln 30 b λd=>
 Ae (UA y 30 d d H) λj f=>
 ln 30 b λk=>
 jn (nB 0 (h 42 [j,b,k,(i 0)] f)) λa g=>U1 a λe=>oR [e] g
def L42 (c:CH) (C:QH) (E:V6 GV) (H:GH):RS:=U4 E λB k b d=>jn (bn .lss 3 d b λu=>
 ob (GV.asB u) λt=>jn (bC t (oX 0 [B] H) (oN [B,k,b,d] H)) λh g=>U4 h λe f l a=>jn (nB 1 (ix 30 f a λv=>
 ld 26 v g λw=>
 Ae (Za y 26 26 .snil w g) λx q=>
 ix 30 e a λz=>
 Ae (KE y 26 z x q) λD r=>
 oN [e,f,l,a] r)) λj s=>U4 j λm n o p=>bn .add 3 p (i 1) λA=>
 oN [m,n,o,A] s) (C 42)
def akt (c:CH) (g:QH) (k:V6 GV) (H:GH):RS:=U3 k λl b m=>
 K c 150 [b] H λh e=>
 ln 30 b λj=>
 jn (nB 0 (g 43 [l,b,m,h,j,(i 0)] e)) λa f=>U1 a λd=>oR [d] f
def L43 (c:CH) (W:QH) (Y:V6 GV) (H:GH):RS:=U6 Y λp q r g h j=>jn (bn .lss 3 j h λO=>
 ob (GV.asB O) λM=>jn (bC M (oX 0 [g] H) (oN [p,q,r,g,h,j] H)) λm l=>U6 m λb d e f k a=>jn (nB 1 (bn .shr 46 e a λP=>
 bn .and 46 P (.int .u32 (.ofNat 1)) λQ=>
 bn .eql 46 Q (.int .u32 (.ofNat 1)) λR=>
 ob (GV.asB R) λN=>jn (bC N (oN [b,d,e,f,k,a] l) (K c 31 [b,d,a] l λS F=>
 K c 33 [b,d,a,S] F λT G=>
 ix 30 f a λU=>
 Ae (KE y 26 U T G) λX I=>
 oN [b,d,e,f,k,a] I)) λn J=>U6 n λs t u v w x=>oN [s,t,u,v,w,x] J)) λo L=>U6 o λz A B C D E=>bn .add 3 E (i 1) λV=>
 oN [z,A,B,C,D,V] L) (W 43)
def aku (c:CH) (g:QH) (e:V6 GV) (H:GH):RS:=U1 e λf=>
 ob (GV.asB f) λd=>jn (bC d (oN [] H) (oR [(i 1)] H)) λa b=>U0 a (oR [(i 0)] b)
def ahY:Ng:=[(13,44),(24,45)]
def akv (c:CH) (g:QH) (d:V6 GV) (H:GH):RS:=U2 d λe f=>
 K c 196 [e,f] H λb a=>
 oR [b] a
def akw (c:CH) (g:QH) (d:V6 GV) (H:GH):RS:=U2 d λe f=>
 K c 197 [e,f] H λb a=>
 oR [b] a
def akx (c:CH) (g:QH) (k:V6 GV) (H:GH):RS:=U2 k λl b=>
 K c 202 [l,(i 0)] H λh e=>
 ln 254 b λj=>
 jn (nB 0 (g 48 [h,b,j,(i 0)] e)) λa f=>U1 a λd=>oR [d] f
def L48 (c:CH) (A:QH) (B:V6 GV) (H:GH):RS:=U4 B λz j a b=>jn (bn .lss 3 b a λt=>
 ob (GV.asB t) λs=>jn (bC s (oX 0 [z] H) (oN [z,j,a,b] H)) λg f=>U4 g λk d l e=>jn (nB 1 (ix 254 d e λu=>
 ld 38 u f λv=>
 Ae (Za y 38 38 k v f) λw q=>
 oN [w,d,l,e] q)) λh r=>U4 h λm n o p=>bn .add 3 p (i 1) λx=>
 oN [m,n,o,x] r) (A 48)
def aky (c:CH) (e:QH) (g:V6 GV) (H:GH):RS:=U2 g λb h=>
 ln 107 b λf=>
 jn (nB 0 (e 49 [b,h,f,(i 0)] H)) λa d=>U0 a (oR [(.int .i64 (.negSucc 0))] d)
def L49 (c:CH) (F:QH) (G:V6 GV) (H:GH):RS:=U4 G λD E B C=>jn (bn .lss 3 C B λw=>
 ob (GV.asB w) λu=>jn (bC u (oX 0 [] H) (oN [D,E,B,C] H)) λf b=>U4 f λd e j a=>jn (nB 1 (ix 107 d a λx=>
 ld 9 x b λy=>
 bn .eql 9 e y λz=>
 ob (GV.asB z) λv=>jn (bC v (oN [d,e,j,a] b) (oR [a] b)) λg s=>U4 g λk l m n=>oN [k,l,m,n] s)) λh t=>U4 h λo p q r=>bn .add 3 r (i 1) λA=>
 oN [o,p,q,A] t) (F 49)
def akz (c:CH) (e:QH) (g:V6 GV) (H:GH):RS:=U1 g λb=>
 ln 62 b λf=>
 jn (nB 0 (e 51 [b,f,(i 0)] H)) λa d=>U0 a (oR [(.bool true)] d)
def L51 (c:CH) (B:QH) (D:V6 GV) (H:GH):RS:=U3 D λz x y=>jn (bn .lss 3 y x λC=>
 ob (GV.asB C) λA=>jn (bC A (oX 0 [] H) (oN [z,x,y] H)) λe a=>U3 e λb h d=>jn (nB 1 (ix 62 b d λs=>
 ld 46 s a λt=>
 bn .andNot 46 t (.int .u32 (.ofNat 16777215)) λu=>
 bn .neq 46 u (.int .u32 (.ofNat 0)) λv=>
 ob (GV.asB v) λr=>jn (bC r (oN [b,h,d] a) (oR [(.bool false)] a)) λf p=>U3 f λj k l=>oN [j,k,l] p)) λg q=>U3 g λm n o=>bn .add 3 o (i 1) λw=>
 oN [m,n,w] q) (B 51)
def akA (c:CH) (f:QH) (d:V6 GV) (H:GH):RS:=U1 d λe=>
 ob (acb e (i 1073741824)) λa=>
 ob (Wv (.int .i64 (.negSucc 1073741823)) a) λb=>
 oR [b] H
def akB (c:CH) (f:QH) (h:V6 GV) (H:GH):RS:=U1 h λb=>
 ln 26 b λg=>
 jn (nB 0 (f 52 [(i 0),b,g,(i 0)] H)) λa e=>U1 a λd=>oR [d] e
def L52 (c:CH) (G:QH) (I:V6 GV) (H:GH):RS:=U4 I λC F D E=>jn (bn .lss 3 E D λw=>
 ob (GV.asB w) λu=>jn (bC u (oX 0 [C] H) (oN [C,F,D,E] H)) λg d=>U4 g λe a f b=>jn (nB 1 (ix 26 a b λx=>
 ld 3 x d λy=>
 bn .neq 3 y (i 0) λz=>
 ob (GV.asB z) λv=>jn (bC v (oN [e,a,f,b] d) (bn .add 3 e (i 1) λA=>
 oN [A,a,f,b] d)) λh s=>U4 h λk l m n=>oN [k,l,m,n] s)) λj t=>U4 j λo p q r=>bn .add 3 r (i 1) λB=>
 oN [o,p,q,B] t) (G 52)
def akC (c:CH) (e:QH) (g:V6 GV) (H:GH):RS:=U2 g λb h=>
 ln 26 b λf=>
 jn (nB 0 (e 53 [b,h,f,(i 0)] H)) λa d=>U0 a (oR [(.int .i64 (.negSucc 0))] d)
def L53 (c:CH) (I:QH) (J:V6 GV) (H:GH):RS:=U4 J λF G D E=>jn (bn .lss 3 E D λy=>
 ob (GV.asB y) λw=>jn (bC w (oX 0 [] H) (oN [F,G,D,E] H)) λh f=>U4 h λd e l a=>jn (nB 1 (ix 26 d a λz=>
 ld 3 z f λA=>
 ob (GV.asF e) λb=>Ae (c b.1 (b.2.1++[A]++b.2.2) f) λB g=>
 ob (GV.asB B) λx=>jn (bC x (oN [d,e,l,a] g) (oR [a] g)) λj u=>U4 j λm n o p=>oN [m,n,o,p] u)) λk v=>U4 k λq r s t=>bn .add 3 t (i 1) λC=>
 oN [q,r,s,C] v) (I 53)
def akD (c:CH) (e:QH) (b:V6 GV) (H:GH):RS:=U1 b λd=>
 bn .neq 3 d (i 0) λa=>
 oR [a] H
def akE (c:CH) (g:QH) (j:V6 GV) (H:GH):RS:=U1 j λb=>
 ln 26 b λh=>
 jn (nB 0 (g 54 [(.int .i64 (.negSucc 1073741823)),(.int .i64 (.negSucc 1073741823)),b,h,(i 0)] H)) λa f=>U2 a λd e=>oR [d,e] f
def L54 (c:CH) (L:QH) (M:V6 GV) (H:GH):RS:=U5 M λI J K g h=>jn (bn .lss 3 h g λC=>
 ob (GV.asB C) λA=>jn (bC A (oX 0 [I,J] H) (oN [I,J,K,g,h] H)) λk e=>U5 k λa n b j d=>jn (nB 1 (ix 26 b d λD=>
 ld 3 D e λf=>
 bn .gtr 3 f a λE=>
 ob (GV.asB E) λB=>jn (bC B (ob (Wv n f) λF=>
 oN [a,F,b,j,d] e) (oN [f,a,b,j,d] e)) λl y=>U5 l λo p q r s=>oN [o,p,q,r,s] y)) λm z=>U5 m λt u v w x=>bn .add 3 x (i 1) λG=>
 oN [t,u,v,w,G] z) (L 54)
def akF (c:CH) (e:QH) (f:V6 GV) (H:GH):RS:=U1 f λg=>
 jn (nB 0 (e 55 [g,(i 0)] H)) λa d=>U1 a λb=>oR [b] d
def L55 (c:CH) (p:QH) (r:V6 GV) (H:GH):RS:=U2 r λm h=>jn (K c 206 [m,h] H λq n=>
 ob (GV.asB q) λo=>jn (bC o (oX 0 [h] n) (oN [m,h] n)) λa j=>U2 a λd e=>jn (nB 1 (bn .add 3 e (i 1) λl=>
 oN [d,l] j)) λb k=>U2 b λf g=>oN [f,g] k) (p 55)
def akG (c:CH) (x:QH) (w:V6 GV) (H:GH):RS:=U2 w λr o=>
 ln 9 r λs=>
 ln 9 o λt=>
 bn .geq 3 s t λb=>
 Ae (rG b true H (some (r,H))) λu p=>
 Ae (rG b true p (some (o,p))) λv q=>
 Ae (rG b true q (ob (abY y 9 v) λf=>some (f,q))) λj a=>
 Ae (rG b true a (ob (Jn y 9 u none (some j) a) λg=>some (g,a))) λk d=>
 Ae (rG b true d (some (o,d))) λl e=>
 Ae (rG b true e (ob (Wp y .eql 9 k l) λh=>some (h,e))) λm i=>
 ob (UD b m (.bool false)) λn=>
 oR [n] i
def akH (c:CH) (g:QH) (d:V6 GV) (H:GH):RS:=U2 d λe f=>
 K c 211 [e,f] H λb a=>
 oR [b] a
def akI (c:CH) (h:QH) (f:V6 GV) (H:GH):RS:=U1 f λg=>
 K c 214 [] H λd a=>
 K c 213 [g,(i 30),d] a λe b=>
 oR [e] b
def akJ (c:CH) (h:QH) (e:V6 GV) (H:GH):RS:=U2 e λf g=>
 bd 126 [(0,f),(1,g)] λb=>
 Ae (JG y 38 1 [(0,b)] H) λd a=>
 oR [d] a
def akK (c:CH) (h:QH) (e:V6 GV) (H:GH):RS:=U2 e λf g=>
 K c 216 [f,g] H λb a=>
 bn .geq 3 b (i 0) λd=>
 oR [d] a
def akL (c:CH) (m:QH) (o:V6 GV) (H:GH):RS:=U3 o λg p q=>
 bn .eql 9 g (.str 0 0) λn=>
 ob (GV.asB n) λl=>jn (bC l (oN [g,p,q] H) (oR [(i 0)] H)) λf k=>U3 f λh j a=>ln 107 a λe=>
 jn (nB 0 (m 56 [h,j,a,e,(i 0)] k)) λb d=>U0 b (oR [(i 0)] d)
def L56 (c:CH) (L:QH) (M:V6 GV) (H:GH):RS:=U5 M λm n o d e=>jn (bn .lss 3 e d λE=>
 ob (GV.asB E) λC=>jn (bC C (oX 0 [] H) (oN [m,n,o,d,e] H)) λj b=>U5 j λf g h p a=>jn (nB 1 (ix 107 h a λF=>
 ld 9 F b λG=>
 bn .eql 9 G f λI=>
 ob (GV.asB I) λD=>jn (bC D (oN [f,g,h,p,a] b) (bn .add 3 g a λJ=>
 oR [J] b)) λk A=>U5 k λq r s t u=>oN [q,r,s,t,u] A)) λl B=>U5 l λv w x y z=>bn .add 3 z (i 1) λK=>
 oN [v,w,x,y,K] B) (L 56)
def akM (c:CH) (h:QH) (e:V6 GV) (H:GH):RS:=U2 e λf g=>
 ob (GV.asB f) λd=>jn (bC d (oN [] H) (oR [g] H)) λa b=>U0 a (oR [(i 0)] b)
def akN (c:CH) (e:QH) (g:V6 GV) (H:GH):RS:=U2 g λb h=>
 ln 26 b λf=>
 jn (nB 0 (e 57 [b,h,f,(i 0)] H)) λa d=>U0 a (oR [(.int .i64 (.negSucc 0))] d)
def L57 (c:CH) (F:QH) (G:V6 GV) (H:GH):RS:=U4 G λD E B C=>jn (bn .lss 3 C B λw=>
 ob (GV.asB w) λu=>jn (bC u (oX 0 [] H) (oN [D,E,B,C] H)) λf b=>U4 f λd e j a=>jn (nB 1 (ix 26 d a λx=>
 ld 3 x b λy=>
 bn .eql 3 e y λz=>
 ob (GV.asB z) λv=>jn (bC v (oN [d,e,j,a] b) (oR [a] b)) λg s=>U4 g λk l m n=>oN [k,l,m,n] s)) λh t=>U4 h λo p q r=>bn .add 3 r (i 1) λA=>
 oN [o,p,q,A] t) (F 57)
def akO (c:CH) (h:QH) (f:V6 GV) (H:GH):RS:=U1 f λg=>
 K c 237 [] H λd a=>
 K c 213 [g,(i 2),d] a λe b=>
 oR [e] b
def akP (c:CH) (h:QH) (f:V6 GV) (H:GH):RS:=U1 f λg=>
 K c 238 [] H λd a=>
 K c 213 [g,(i 20),d] a λe b=>
 oR [e] b
def akQ (c:CH) (h:QH) (f:V6 GV) (H:GH):RS:=U1 f λg=>
 K c 239 [] H λd a=>
 K c 213 [g,(i 13),d] a λe b=>
 oR [e] b
def akR (c:CH) (e:QH) (d:V6 GV) (H:GH):RS:=U0 d (Ae (JG y 107 5 [(0,(.str 25705 2)),(1,(.str 6776164 3)),(2,(.str 1953460082 4)),(3,(.str 127991760381303 6)),(4,(.str 1801675106 4))] H) λb a=>
 oR [b] a)
def d0:(Code×Cx)×kN:=gD (fG f22 [1,1,0,1,0,0],nD f22 [(0,1)]) 0
def d1:(Code×Cx)×kN:=gD1 (fG f26 [1,1,0,1,0,0],nD f26 [(0,32)]) 1 1 2
def d2:(Code×Cx)×kN:=gD (fG f26 [1,1,0,1,0,0,1,1,0,0,1,1,1,0,0],nD f26 [(2,3670056),(1,3670056),(0,32)]) 2
def d3:(Code×Cx)×kN:=gD (fG f31 [1,0,1,0,0],nD f31 [(0,0)]) 3
def d4:(Code×Cx)×kN:=gD (fG f33 [1,1,0,1,0,0],nD f33 [(0,512)]) 4
def d5:(Code×Cx)×kN:=gD (fG f34 [1,1,1,0,1,0,0],nD f34 [(0,0)]) 5
def d6:(Code×Cx)×kN:=gD (fG f35 [1,1,0,1,0,0],nD f35 [(0,0)]) 6
def d7:(Code×Cx)×kN:=gD (fG f40 [1,1,1,0,1,0,0],nD f40 [(0,32)]) 7
def d8:(Code×Cx)×kN:=gDs (fG f43 [1,1,1,0,1,0,0],nD f43 [(0,2)]) s43
def d9:(Code×Cx)×kN:=gDs (fG f43 [1,1,1,1,0,1,0,0],nD f43 [(2,2)]) s43
def d10:(Code×Cx)×kN:=gDs (fG f43 [1,1,1,1,1,1,0,1,0,0],nD f43 [(4,0)]) s43
def d11:(Code×Cx)×kN:=((fG f50 [1,1,0,1,0,0],nD f50 [(0,0)]),L11)
def d12:(Code×Cx)×kN:=gD (fG f58 [1,1,0,1,0,0],nD f58 [(0,0)]) 12
def d13:(Code×Cx)×kN:=gD1 (fG f59 [1,1,0,1,0,0],nD f59 [(0,32)]) 1 13 14
def d14:(Code×Cx)×kN:=gD (fG f59 [1,1,0,1,0,0,1,1,0,0,1,1,1,0,0],nD f59 [(2,49196),(1,49196),(0,32)]) 14
def d15:(Code×Cx)×kN:=gD (fG f62 [1,0,1,0,0],nD f62 [(0,0)]) 15
def d16:(Code×Cx)×kN:=((fG f74 [1,1,0,1,0,0],nD f74 [(0,32)]),L16)
def d17:(Code×Cx)×kN:=gD (fG f80 [1,1,1,0,1,0,0],nD f80 [(0,8)]) 17
def d18:(Code×Cx)×kN:=((fG f87 [1,0,0,0],nD f87 [(0,2)]),L18)
def d19:(Code×Cx)×kN:=((fG f87 [1,0,0,0,1,0,1,0,1,1,1,0,0,0],nD f87 [(3,3),(2,3),(1,3),(0,2)]),L19)
def d20:(Code×Cx)×kN:=gD (fG f92 [1,1,1,0,1,0,0],nD f92 [(0,33)]) 20
def d21:(Code×Cx)×kN:=((fG f93 [1,0,0],nD f93 [(0,0)]),L21)
def d22:(Code×Cx)×kN:=gD (fG f95 [1,1,1,1,1,0,0,0],nD f95 [(0,5)]) 22
def d23:(Code×Cx)×kN:=gDs (fG f98 [1,1,1,0,1,0,0],nD f98 [(0,2)]) s98
def d24:(Code×Cx)×kN:=gDs (fG f98 [1,1,1,1,1,0,1,0,0],nD f98 [(2,0)]) s98
def d25:(Code×Cx)×kN:=gD (fG f100 [1,1,1,0,1,0,0],nD f100 [(0,0)]) 25
def d26:(Code×Cx)×kN:=gD (fG f101 [1,1,0,1,0,0],nD f101 [(0,8)]) 26
def d27:(Code×Cx)×kN:=gD (fG f102 [1,1,0,1,0,0],nD f102 [(0,0)]) 27
def d28:(Code×Cx)×kN:=gD1 (fG f103 [1,1,0,1,0,0],nD f103 [(0,48)]) 1 28 29
def d29:(Code×Cx)×kN:=gD (fG f103 [1,1,0,1,0,0,1,1,0,0,1,1,0,0],nD f103 [(2,3123),(1,3123),(0,48)]) 29
def d30:(Code×Cx)×kN:=gD1 (fG f105 [1,1,0,1,0,0],nD f105 [(0,8)]) 1 30 31
def d31:(Code×Cx)×kN:=gD (fG f105 [1,1,0,1,0,0,1,1,0,0,1,1,0,0],nD f105 [(2,57352),(1,57352),(0,8)]) 31
def d32:(Code×Cx)×kN:=gD (fG f107 [1,1,1,1,1,1,1,0,1,0,0],nD f107 [(0,5378)]) 32
def d33:(Code×Cx)×kN:=((fG f110 [1,1,1,0,1,0,0],nD f110 [(0,64)]),L33)
def d34:(Code×Cx)×kN:=((fG f110 [1,1,1,0,1,0,0,1,0,0,1,1,0,1,0,0],nD f110 [(2,963),(1,195),(0,64)]),L34)
def d35:(Code×Cx)×kN:=gD (fG f113 [1,1,0,1,0,0],nD f113 [(0,0)]) 35
def d36:(Code×Cx)×kN:=((fG f131 [1,1,0,0,0],nD f131 [(0,32)]),L36)
def d37:(Code×Cx)×kN:=gD (fG f135 [1,1,1,0,1,0,0],nD f135 [(0,16)]) 37
def d38:(Code×Cx)×kN:=gD (fG f136 [1,0,1,0,0],nD f136 [(0,1)]) 38
def d39:(Code×Cx)×kN:=gD (fG f140 [1,1,0,1,0,0],nD f140 [(0,1)]) 39
def d40:(Code×Cx)×kN:=gD (fG f148 [1,1,0,1,0,0],nD f148 [(0,7)]) 40
def d41:(Code×Cx)×kN:=gD (fG f149 [1,1,0,1,0,0],nD f149 [(0,12)]) 41
def d42:(Code×Cx)×kN:=((fG f150 [1,1,0,1,0,0],nD f150 [(0,8)]),L42)
def d43:(Code×Cx)×kN:=((fG f153 [1,1,0,1,0,0],nD f153 [(0,128)]),L43)
def d44:(Code×Cx)×kN:=gDs (fG f162 [1,0,1,0,1,1,1,1,1,1,1,1,1,0,1,0,1,0,0],nD f162 [(1,32),(0,2)]) ahY
def d45:(Code×Cx)×kN:=gDs (fG f162 [1,0,1,0,1,1,1,1,1,1,1,1,1,1,1,1,1,0,1,0,1,0,0],nD f162 [(3,1024),(0,2)]) ahY
def d46:(Code×Cx)×kN:=gD (fG f164 [1,1,1,0,1,0,0],nD f164 [(0,903)]) 46
def d47:(Code×Cx)×kN:=gD (fG f172 [1,1,1,0,0],nD f172 [(0,16)]) 47
def d48:(Code×Cx)×kN:=((fG f173 [1,1,0,1,0,0],nD f173 [(0,32)]),L48)
def d49:(Code×Cx)×kN:=((fG f174 [1,0,1,0,0],nD f174 [(0,0)]),L49)
def d50:(Code×Cx)×kN:=gD (fG f175 [1,1,1,1,1,1,0,1,0,0],nD f175 [(0,1408)]) 50
def d51:(Code×Cx)×kN:=((fG f178 [1,0,1,0,0],nD f178 [(0,0)]),L51)
def d52:(Code×Cx)×kN:=((fG f185 [1,1,0,1,0,0],nD f185 [(0,8)]),L52)
def d53:(Code×Cx)×kN:=((fG f186 [1,0,1,0,0],nD f186 [(0,0)]),L53)
def d54:(Code×Cx)×kN:=((fG f188 [1,1,0,1,0,0],nD f188 [(0,12)]),L54)
def d55:(Code×Cx)×kN:=((fG f189 [1,1,0,0,0],nD f189 [(0,8)]),L55)
def d56:(Code×Cx)×kN:=((fG f213 [1,1,0,1,0,0],nD f213 [(0,0)]),L56)
def d57:(Code×Cx)×kN:=((fG f216 [1,0,1,0,0],nD f216 [(0,0)]),L57)
def XL (f:Nat):V1 (Func×kN):=(tN f 133 (tN f 75 (tN f 44 (tN f 31 (tN f 22 (tN f 20 (tN f 19 (tL f 5 (f5,(gB f5))) (tL f 19 (f19,(gB f19)))) (tN f 21 (tL f 20 (f20,(gB f20))) (tL f 21 (f21,(gB f21))))) (tN f 26 (tN f 24 (tL f 22 (f22,(LJ f22 0))) (tL f 24 (f24,(gB f24)))) (tN f 30 (tL f 26 (f26,(LJ f26 1))) (tL f 30 (f30,(gB f30)))))) (tN f 35 (tN f 33 (tN f 32 (tL f 31 (f31,(LJ f31 3))) (tL f 32 (f32,(gB f32)))) (tN f 34 (tL f 33 (f33,(LJ f33 4))) (tL f 34 (f34,(LJ f34 5))))) (tN f 40 (tN f 36 (tL f 35 (f35,(LJ f35 6))) (tL f 36 (f36,(gB f36)))) (tN f 42 (tL f 40 (f40,(LJ f40 7))) (tN f 43 (tL f 42 (f42,(gB f42))) (tL f 43 (f43,(gBs f43 s43)))))))) (tN f 52 (tN f 48 (tN f 46 (tN f 45 (tL f 44 (f44,(gB f44))) (tL f 45 (f45,B45))) (tN f 47 (tL f 46 (f46,(gB f46))) (tL f 47 (f47,(gB f47))))) (tN f 50 (tN f 49 (tL f 48 (f48,B48)) (tL f 49 (f49,(gB f49)))) (tN f 51 (tL f 50 (f50,B50)) (tL f 51 (f51,(gB f51)))))) (tN f 58 (tN f 54 (tN f 53 (tL f 52 (f52,B52)) (tL f 53 (f53,B53))) (tN f 56 (tL f 54 (f54,(gB f54))) (tL f 56 (f56,(gB f56))))) (tN f 62 (tN f 59 (tL f 58 (f58,(LJ f58 12))) (tL f 59 (f59,(LJ f59 13)))) (tN f 73 (tL f 62 (f62,(LJ f62 15))) (tN f 74 (tL f 73 (f73,(gB f73))) (tL f 74 (f74,B74)))))))) (tN f 99 (tN f 88 (tN f 80 (tN f 77 (tN f 76 (tL f 75 (f75,B75)) (tL f 76 (f76,(gB f76)))) (tN f 79 (tL f 77 (f77,B77)) (tL f 79 (f79,(gB f79))))) (tN f 82 (tN f 81 (tL f 80 (f80,(LJ f80 17))) (tL f 81 (f81,B81))) (tN f 87 (tL f 82 (f82,(gB f82))) (tL f 87 (f87,B87))))) (tN f 94 (tN f 92 (tN f 91 (tL f 88 (f88,(gB f88))) (tL f 91 (f91,(gB f91)))) (tN f 93 (tL f 92 (f92,(LJ f92 20))) (tL f 93 (f93,B93)))) (tN f 96 (tN f 95 (tL f 94 (f94,(gB f94))) (tL f 95 (f95,(LJ f95 22)))) (tN f 97 (tL f 96 (f96,B96)) (tN f 98 (tL f 97 (f97,(gB f97))) (tL f 98 (f98,(gBs f98 s98)))))))) (tN f 108 (tN f 103 (tN f 101 (tN f 100 (tL f 99 (f99,(gB f99))) (tL f 100 (f100,(LJ f100 25)))) (tN f 102 (tL f 101 (f101,(LJ f101 26))) (tL f 102 (f102,(LJ f102 27))))) (tN f 105 (tN f 104 (tL f 103 (f103,(LJ f103 28))) (tL f 104 (f104,(gB f104)))) (tN f 106 (tL f 105 (f105,(LJ f105 30))) (tN f 107 (tL f 106 (f106,(gB f106))) (tL f 107 (f107,(LJ f107 32))))))) (tN f 113 (tN f 111 (tN f 110 (tL f 108 (f108,(gB f108))) (tL f 110 (f110,akn))) (tN f 112 (tL f 111 (f111,ako)) (tL f 112 (f112,akp)))) (tN f 125 (tN f 121 (tL f 113 (f113,(LJ f113 35))) (tL f 121 (f121,(gB f121)))) (tN f 131 (tL f 125 (f125,(gB f125))) (tN f 132 (tL f 131 (f131,akq)) (tL f 132 (f132,(gB f132)))))))))) (tN f 175 (tN f 150 (tN f 141 (tN f 137 (tN f 135 (tN f 134 (tL f 133 (f133,(gB f133))) (tL f 134 (f134,(gB f134)))) (tN f 136 (tL f 135 (f135,(LJ f135 37))) (tL f 136 (f136,(LJ f136 38))))) (tN f 139 (tN f 138 (tL f 137 (f137,(gB f137))) (tL f 138 (f138,akr))) (tN f 140 (tL f 139 (f139,(gB f139))) (tL f 140 (f140,(LJ f140 39)))))) (tN f 145 (tN f 143 (tN f 142 (tL f 141 (f141,(gB f141))) (tL f 142 (f142,(gB f142)))) (tN f 144 (tL f 143 (f143,(gB f143))) (tL f 144 (f144,(gB f144))))) (tN f 147 (tN f 146 (tL f 145 (f145,(gB f145))) (tL f 146 (f146,(gB f146)))) (tN f 148 (tL f 147 (f147,(gB f147))) (tN f 149 (tL f 148 (f148,(LJ f148 40))) (tL f 149 (f149,(LJ f149 41)))))))) (tN f 163 (tN f 158 (tN f 153 (tN f 151 (tL f 150 (f150,aks)) (tL f 151 (f151,(gB f151)))) (tN f 154 (tL f 153 (f153,akt)) (tL f 154 (f154,(gB f154))))) (tN f 161 (tN f 160 (tL f 158 (f158,aku)) (tL f 160 (f160,(gB f160)))) (tN f 162 (tL f 161 (f161,(gB f161))) (tL f 162 (f162,(gBs f162 ahY)))))) (tN f 170 (tN f 168 (tN f 164 (tL f 163 (f163,(gB f163))) (tL f 164 (f164,(LJ f164 46)))) (tN f 169 (tL f 168 (f168,akv)) (tL f 169 (f169,akw)))) (tN f 172 (tN f 171 (tL f 170 (f170,(gB f170))) (tL f 171 (f171,(gB f171)))) (tN f 173 (tL f 172 (f172,(LJ f172 47))) (tN f 174 (tL f 173 (f173,akx)) (tL f 174 (f174,aky)))))))) (tN f 201 (tN f 186 (tN f 182 (tN f 178 (tN f 177 (tL f 175 (f175,(LJ f175 50))) (tL f 177 (f177,(gB f177)))) (tN f 179 (tL f 178 (f178,akz)) (tL f 179 (f179,(gB f179))))) (tN f 184 (tN f 183 (tL f 182 (f182,akA)) (tL f 183 (f183,(gB f183)))) (tN f 185 (tL f 184 (f184,(gB f184))) (tL f 185 (f185,akB))))) (tN f 196 (tN f 188 (tN f 187 (tL f 186 (f186,akC)) (tL f 187 (f187,akD))) (tN f 189 (tL f 188 (f188,akE)) (tL f 189 (f189,akF)))) (tN f 198 (tN f 197 (tL f 196 (f196,akG)) (tL f 197 (f197,akH))) (tN f 199 (tL f 198 (f198,(gB f198))) (tN f 200 (tL f 199 (f199,(gB f199))) (tL f 200 (f200,akI))))))) (tN f 215 (tN f 205 (tN f 203 (tN f 202 (tL f 201 (f201,(gB f201))) (tL f 202 (f202,akJ))) (tN f 204 (tL f 203 (f203,(gB f203))) (tL f 204 (f204,(gB f204))))) (tN f 212 (tN f 206 (tL f 205 (f205,(gB f205))) (tL f 206 (f206,akK))) (tN f 213 (tL f 212 (f212,(gB f212))) (tN f 214 (tL f 213 (f213,akL)) (tL f 214 (f214,(gB f214))))))) (tN f 232 (tN f 230 (tN f 216 (tL f 215 (f215,akM)) (tL f 216 (f216,akN))) (tN f 231 (tL f 230 (f230,(gB f230))) (tL f 231 (f231,akO)))) (tN f 237 (tN f 236 (tL f 232 (f232,akP)) (tL f 236 (f236,akQ))) (tN f 238 (tL f 237 (f237,(gB f237))) (tN f 239 (tL f 238 (f238,(gB f238))) (tL f 239 (f239,akR))))))))))
def afA (f:Nat):V1 ((Code×Cx)×kN):=(tN f 29 (tN f 14 (tN f 7 (tN f 3 (tN f 1 (tL f 0 d0) (tN f 2 (tL f 1 d1) (tL f 2 d2))) (tN f 5 (tN f 4 (tL f 3 d3) (tL f 4 d4)) (tN f 6 (tL f 5 d5) (tL f 6 d6)))) (tN f 10 (tN f 8 (tL f 7 d7) (tN f 9 (tL f 8 d8) (tL f 9 d9))) (tN f 12 (tN f 11 (tL f 10 d10) (tL f 11 d11)) (tN f 13 (tL f 12 d12) (tL f 13 d13))))) (tN f 21 (tN f 17 (tN f 15 (tL f 14 d14) (tN f 16 (tL f 15 d15) (tL f 16 d16))) (tN f 19 (tN f 18 (tL f 17 d17) (tL f 18 d18)) (tN f 20 (tL f 19 d19) (tL f 20 d20)))) (tN f 25 (tN f 23 (tN f 22 (tL f 21 d21) (tL f 22 d22)) (tN f 24 (tL f 23 d23) (tL f 24 d24))) (tN f 27 (tN f 26 (tL f 25 d25) (tL f 26 d26)) (tN f 28 (tL f 27 d27) (tL f 28 d28)))))) (tN f 43 (tN f 36 (tN f 32 (tN f 30 (tL f 29 d29) (tN f 31 (tL f 30 d30) (tL f 31 d31))) (tN f 34 (tN f 33 (tL f 32 d32) (tL f 33 d33)) (tN f 35 (tL f 34 d34) (tL f 35 d35)))) (tN f 39 (tN f 37 (tL f 36 d36) (tN f 38 (tL f 37 d37) (tL f 38 d38))) (tN f 41 (tN f 40 (tL f 39 d39) (tL f 40 d40)) (tN f 42 (tL f 41 d41) (tL f 42 d42))))) (tN f 50 (tN f 46 (tN f 44 (tL f 43 d43) (tN f 45 (tL f 44 d44) (tL f 45 d45))) (tN f 48 (tN f 47 (tL f 46 d46) (tL f 47 d47)) (tN f 49 (tL f 48 d48) (tL f 49 d49)))) (tN f 54 (tN f 52 (tN f 51 (tL f 50 d50) (tL f 51 d51)) (tN f 53 (tL f 52 d52) (tL f 53 d53))) (tN f 56 (tN f 55 (tL f 54 d54) (tL f 55 d55)) (tN f 57 (tL f 56 d56) (tL f 57 d57)))))))
def V_:Of:=⟨XL,afA⟩
def FO (f:Nat) (e:Func×kN):Prop:=(∀(c:CH) (a:LH) us H,e.2 c (V_.loop a) us H=YF CV c a e.1 us H)/\prog.funcs[f]?=some e.1/\aX prog f/\okF y e.1=true
def LO (e:(Code×Cx)×kN):Prop:=∀(c:CH) (a:LH) us H,e.2 c (V_.loop a) us H=evL CV c a e.1.1 e.1.2 us H
theorem rF {f n:Nat} {x e:Func×kN} (d:prog.funcs[n]?=some x.1) (g:aX prog n) (b:∀(c:CH) (a:LH) us H,x.2 c (V_.loop a) us H=YF CV c a x.1 us H:=by intro _ _ _ _;kernel_rfl) (h:okF y x.1=true:=by kernel_rfl):tL f n x=some e->FO f e:=rL (show FO n x from⟨b,d,g,h⟩)
theorem CP {f n:Nat} {x e:(Code×Cx)×kN} (h:LO x:=by intro _ _ _ _;kernel_rfl):tL f n x=some e->LO e:=rL (R:=λ_=>LO) h
theorem QG {f:Nat} {e:Func×kN}:XL f=some e->FO f e:=(rN (rN (rN (rN (rN (rN (rN (rF func5 call5) (rF func19 call19)) (rN (rF func20 call20) (rF func21 call21))) (rN (rN (rF func22 call22) (rF func24 call24)) (rN (rF func26 call26) (rF func30 call30)))) (rN (rN (rN (rF func31 call31) (rF func32 call32)) (rN (rF func33 call33) (rF func34 call34))) (rN (rN (rF func35 call35) (rF func36 call36)) (rN (rF func40 call40) (rN (rF func42 call42) (rF func43 call43)))))) (rN (rN (rN (rN (rF func44 call44) (rF func45 call45)) (rN (rF func46 call46) (rF func47 call47))) (rN (rN (rF func48 call48) (rF func49 call49)) (rN (rF func50 call50) (rF func51 call51)))) (rN (rN (rN (rF func52 call52) (rF func53 call53)) (rN (rF func54 call54) (rF func56 call56))) (rN (rN (rF func58 call58) (rF func59 call59)) (rN (rF func62 call62) (rN (rF func73 call73) (rF func74 call74))))))) (rN (rN (rN (rN (rN (rF func75 call75) (rF func76 call76)) (rN (rF func77 call77) (rF func79 call79))) (rN (rN (rF func80 call80) (rF func81 call81)) (rN (rF func82 call82) (rF func87 call87)))) (rN (rN (rN (rF func88 call88) (rF func91 call91)) (rN (rF func92 call92) (rF func93 call93))) (rN (rN (rF func94 call94) (rF func95 call95)) (rN (rF func96 call96) (rN (rF func97 call97) (rF func98 call98)))))) (rN (rN (rN (rN (rF func99 call99) (rF func100 call100)) (rN (rF func101 call101) (rF func102 call102))) (rN (rN (rF func103 call103) (rF func104 call104)) (rN (rF func105 call105) (rN (rF func106 call106) (rF func107 call107))))) (rN (rN (rN (rF func108 call108) (rF func110 call110)) (rN (rF func111 call111) (rF func112 call112))) (rN (rN (rF func113 call113) (rF func121 call121)) (rN (rF func125 call125) (rN (rF func131 call131) (rF func132 call132)))))))) (rN (rN (rN (rN (rN (rN (rF func133 call133) (rF func134 call134)) (rN (rF func135 call135) (rF func136 call136))) (rN (rN (rF func137 call137) (rF func138 call138)) (rN (rF func139 call139) (rF func140 call140)))) (rN (rN (rN (rF func141 call141) (rF func142 call142)) (rN (rF func143 call143) (rF func144 call144))) (rN (rN (rF func145 call145) (rF func146 call146)) (rN (rF func147 call147) (rN (rF func148 call148) (rF func149 call149)))))) (rN (rN (rN (rN (rF func150 call150) (rF func151 call151)) (rN (rF func153 call153) (rF func154 call154))) (rN (rN (rF func158 call158) (rF func160 call160)) (rN (rF func161 call161) (rF func162 call162)))) (rN (rN (rN (rF func163 call163) (rF func164 call164)) (rN (rF func168 call168) (rF func169 call169))) (rN (rN (rF func170 call170) (rF func171 call171)) (rN (rF func172 call172) (rN (rF func173 call173) (rF func174 call174))))))) (rN (rN (rN (rN (rN (rF func175 call175) (rF func177 call177)) (rN (rF func178 call178) (rF func179 call179))) (rN (rN (rF func182 call182) (rF func183 call183)) (rN (rF func184 call184) (rF func185 call185)))) (rN (rN (rN (rF func186 call186) (rF func187 call187)) (rN (rF func188 call188) (rF func189 call189))) (rN (rN (rF func196 call196) (rF func197 call197)) (rN (rF func198 call198) (rN (rF func199 call199) (rF func200 call200)))))) (rN (rN (rN (rN (rF func201 call201) (rF func202 call202)) (rN (rF func203 call203) (rF func204 call204))) (rN (rN (rF func205 call205) (rF func206 call206)) (rN (rF func212 call212) (rN (rF func213 call213) (rF func214 call214))))) (rN (rN (rN (rF func215 call215) (rF func216 call216)) (rN (rF func230 call230) (rF func231 call231))) (rN (rN (rF func232 call232) (rF func236 call236)) (rN (rF func237 call237) (rN (rF func238 call238) (rF func239 call239)))))))))
theorem abC {f:Nat} {e:(Code×Cx)×kN}:afA f=some e->LO e:=(rN (rN (rN (rN (rN CP (rN CP CP)) (rN (rN CP CP) (rN CP CP))) (rN (rN CP (rN CP CP)) (rN (rN CP CP) (rN CP CP)))) (rN (rN (rN CP (rN CP CP)) (rN (rN CP CP) (rN CP CP))) (rN (rN (rN CP CP) (rN CP CP)) (rN (rN CP CP) (rN CP CP))))) (rN (rN (rN (rN CP (rN CP CP)) (rN (rN CP CP) (rN CP CP))) (rN (rN CP (rN CP CP)) (rN (rN CP CP) (rN CP CP)))) (rN (rN (rN CP (rN CP CP)) (rN (rN CP CP) (rN CP CP))) (rN (rN (rN CP CP) (rN CP CP)) (rN (rN CP CP) (rN CP CP))))))
theorem aex:Vj V_ CV:=⟨λh=>(QG h).1,abC⟩
theorem abB {f:Nat} {e:Func×kN} (h:XL f=some e):prog.funcs[f]?=some e.1/\aX prog f/\okF y e.1=true:=(QG h).2
end
end Go.Gx
end
namespace Go.Gx
open Go Go.Sx
section
variable {P:Program} {gs:FX} {w0:lJ gs} {tb:TB}
theorem TD:xA P w0 (λ_ _ _=>none):=λf b H g a h=>by cases h
theorem MW:LS P w0 tb (λ_ _ _ _=>none):=λb c d H a h=>by cases h
theorem adU {C:CH} {G:LH} (y:iR P tb) (Q:P.follows .mixedOrders=true) (k:∀w0:lJ gs,xA P w0 C) (l:LS P w0 tb G) {f:Nat} {d:Func} {J:V6 GV} {H:GH} {c:Tc} (L:P.funcs[f]?=some d) (A:okF tb d=true) (h:YF tb C G d J H=some c) (O:c.e = .ret) {t:iP} {w:V2} {s:V6 V0} (R:lP w0 t H w) (E:zX t J s):
  Calls P f s.toArray w λe u=>∃v a,e = .returned v/\t.le a/\lP w0 a c.H u/\Rl a (YW c.vs) v:=by
 have⟨M,N⟩:=Ue A;have⟨i,D,h⟩:=aH.1 (show ob d.body _=some c from h);have⟨K,m,h⟩:=vC h;rw[List.range_eq_range']at m;have r:=Og m;have S:s.length<=d.ntmps:=by rw[<-E.len,r];exact N
 refine zA L D ?_;have F:oK t d.ntmps K {tmps:=s.toArray++Array.replicate (d.ntmps - s.toArray.size) undef,defers:=[]}:=by
  refine Rh Z Q1 E (λj v p=>?_) m;have z:=bM p;rw[zB3,zB6 (by simpa using z)];simpa using p
 refine HP y Q k l i _ _ _ ⟨K,H⟩ c t _ w _ (M i D) h F R ⟨λI a B u q b n o=>?_,λid I a B u q b n o=>?_,λI a B u q b n o=>?_⟩
 .have⟨x,v,p,g⟩:=Lk (fn:=d) y Z n o q;exact Sx.body_end (.inr Z) n.defers g ⟨v,a,rfl,b,by rw[x];exact o,p⟩
 .have:=Fj q;rw[O]at this;cases this
 .have⟨x,v,p,g⟩:=Lk (fn:=d) y Z n o q;exact Sx.body_end (.inl Z) n.defers g ⟨v,a,rfl,b,by rw[x];exact o,p⟩
noncomputable def Qr (tb:TB) (f:Nat) (a:Func):CH:=λg b H=>bif Nat.beq g f then QE (YF tb (λ_ _ _=>none) (λ_ _ _ _=>none) a b H)else none
theorem aal (m:iR P tb) (p:P.follows .mixedOrders=true) {f:Nat} {c:Func} (k:P.funcs[f]?=some c) (n:aX P f) (i:okF tb c=true):xA P w0 (Qr tb f c):=λg r H x j h t w s R q=>by
 unfold Qr at h;cases b:Nat.beq g f with
 |false=>rw[b]at h;cases h
 |true=>
 rw[b]at h;have b:=zA4 b;subst b;replace h:QE (YF tb (λ_ _ _=>none) (λ_ _ _ _=>none) c r H)=some (x,j):=h;unfold QE at h;have⟨o,l,a⟩:=aH.1 h;cases d:o.e with
 |normal=>rw[d]at a;cases a
 |exit id=>rw[d]at a;cases a
 |ret=>
  rw[d]at a;cases a;exact .inr ⟨n _ w,adU m p (λ_=>TD) MW k i l d R q⟩
theorem Zi {id:Nat} {o:V5} {l:V6 V5} {Q:Exit->Act->V6 Frame->V2->Prop} {a:Act} {d:V6 Frame} {w:V2} (x:l.all lW=true) (C:o.guard=none) (r:(execOp a.eval o).run P w = .ok .recover w)
  (q:recoverD d=none) (h:Sx.wpList P (o::l).toArray (λe g t=>Q e g d t) l (a.put o.dst .nilIface) w):(Code.region id (o::l).toArray false).wpSIn (FR none) 0 P Q a d w:=by
 intro b k B f u c;have y:(o::l).toArray[0]?=some o:=V8
 obtain⟨e,g,t,E,i⟩:=wp_opsIn (F:=FR none) (n:=0) (Q:=λe g t=>Q e g d t) (ops:=(o::l).toArray) (List.range' 1 l.length) (a.put o.dst .nilIface) w
  (by rw[wpOpsIn_eq_wpListIn l 1 (by intro j;simp[Nat.add_comm 1 j])];exact Sx.wpList_in l _ w x h) b k d f u c
 have H:Region.wanted o (yielded (o::l).toArray a.tmps)=true:=by simp[Region.wanted,C]
 have A:(lone (b.atR a (.inRegion (o::l).toArray (0::List.range' 1 l.length)::k)) d w).fenced P (FR none):=fenced_oper u c y (λ_ _=>trivial);have p:=stepGR_op (P:=P) (b:=b) (k:=k) (cs:=d) (w:=w) (rest:=List.range' 1 l.length) y H;rw[f,Oper.semAt_none]at p;have m:∀v,(b.atR a (.inRegion (o::l).toArray (0::List.range' 1 l.length)::k)).finish v=b.atR (a.put o.dst v) (.inRegion (o::l).toArray (List.range' 1 l.length)::k):=by
  intro v;rw[Frame.finish_atR,y];rfl
 have D:(b.atR a (.inRegion (o::l).toArray (0::List.range' 1 l.length)::k)).kind = .deferred:=B;have s:=tryRecover_deferred D d;have G:List.range (o::l).toArray.size=0::List.range' 1 l.length:=by simp[List.range_eq_range',List.range'_succ]
 have z:=stepR_region (P:=P) (b:=b) (a:=a) (k:=k) (cs:=d) (w:=w) (id:=id) (ops:=(o::l).toArray);rw[G]at z;refine⟨e,g,d,t,rfl,E,.of_steps (.head (fenced_calm u c Z) z (.one A (step_lone_go ?_))) i⟩
 rw[p,<-m];simp only[Frame.atR,f]at s ⊢;simp[stepG.apply,r,s,q]
theorem Yt {ch:CH} {lp:LH} (I:iR P tb) (hm:P.follows .mixedOrders=true) {f:Nat} {i:Func} {id m d:Nat} {o:V5} {l:V6 V5} {b:Code} {U:Cx} {q:Tc} {a:Array V0} {w:V2}
  (c:∀w0:lJ noG,xA P w0 ch) (p:LS P (lJ.one w) tb lp) (X:P.funcs[f]?=some i) (V:i.body=some (.seq (.region id (o::l).toArray false) b)) (B:o.guard=none) (W:o.dst=some d) (A:d<i.ntmps)
  (u:∀ρ w,(execOp ρ o).run P w = .ok .recover w) (K:l.all (Ms i.ntmps)=true) (hr:LM tb i.ntmps b=true) (s:i.results = #[]) (aa:a.size<=i.ntmps)
  (h:JS tb ch (o::l) (evC tb ch lp b m U (Lj [])) l ⟨[(d,.inil)],H0⟩=some q) (J:q.e = .normal):
  CallsDIn (FR none) 0 P f a .returning w λe u' E=>∃v,e = .returned v/\u' = .returning/\UN w E:=by
 have D:l.all lW=true:=zA2.2 λo C=>(zM (zA2.1 K o C)).1;refine callsDIn_of_wpSIn X V trivial λk T M=>?_;have r:recoverD (k::T)=none:=by simp[recoverD,M]
 refine wpSIn_seq (Zi D B (u _ _) r ?_);have F:oK (λ_=>none) i.ntmps [(d,.inil)] (({tmps:=a++Array.replicate (i.ntmps - a.size) undef,defers:=[]}:Act).put o.dst .nilIface):=by
  rw[W];refine oK.put ⟨rfl,Q1,λt g B=>(by cases B)⟩ A ?_;exact .inil
 refine KS I (c (lJ.one w)) l ⟨[(d,.inil)],H0⟩ _ _ w K F (lP.start (lJ.one w) Z) h λs' G S E Y L Q R=>wpSIn_of_wpIn Z<|HP I hm c p b _ _ _ s' q G S E _ hr Y Q R ⟨λN x H O j n y z=>?_,λid N x H O j n y z=>?_,λN x H O j n y z=>?_⟩
 .refine⟨y.defers,k.mode,rfl,.tuple #[],?_,_,rfl,M,z.ext.ext⟩
  simp[results,s]
 .have:=Fj j;rw[J]at this;cases this
 .have:=Se j;rw[J]at this;cases this
theorem NW {o:V5} {l:V6 V5} {b:Array V5} {Q:Exit->Act->V2->Prop} {a:Act} {w w':V2} {v:V0} (c:o.guard=none) (d:(execOp a.eval o).run P w = .ok (.value v) w') (h:Sx.wpList P b Q l (a.put o.dst v) w'):Sx.wpList P b Q (o::l) a w:=by
 unfold Sx.wpList;rw[if_pos (by simp[Region.wanted,c])];exact .inl (by simp only[Oper.wp,d,Oper.upon];exact h)
theorem UJ {o:V5} {l:V6 V5} {b:Array V5} {Q:Exit->Act->V2->Prop} {a:Act} {w w':V2} (c:o.guard=none) (d:(execOp a.eval o).run P w = .ok .skip w') (h:Sx.wpList P b Q l (a.put o.dst undef) w'):Sx.wpList P b Q (o::l) a w:=by
 unfold Sx.wpList;rw[if_pos (by simp[Region.wanted,c])];exact .inl (by simp only[Oper.wp,d,Oper.upon];exact h)
theorem Zj {o:V5} {l:V6 V5} {b:Array V5} {Q:Exit->Act->V2->Prop} {a:Act} {w:V2} {f:Nat} {args:Array V0} {S:V0->V2->Prop} (d:o.guard=none) (g:(execOp a.eval o).run P w = .ok (.enter f args) w)
  (c:Calls P f args w λe w'=>∃v,e = .returned v/\S v w') (h:∀v w',S v w'->Sx.wpList P b Q l (a.put o.dst v) w'):Sx.wpList P b Q (o::l) a w:=by
 unfold Sx.wpList;rw[if_pos (by simp[Region.wanted,d])];refine .inl ?_;simp only[Oper.wp,g,Oper.upon];refine c.mono ?_;rintro e w' ⟨v,rfl,i⟩;exact h v w' i
theorem agS (M:iR P tb) {c cc T1 T2 i0 i1 i2 i3 y0 y1 y2 y3 y4 y5 y6 y7:Nat} {p0 p1 p2 p3 p4 p5 p6 p7:String} {e0 e1 e2 e3 e4 e5 e6 e7:Array Edge} {z:Func} (hf:P.funcs[c]?=some z) (ag:aX P c) (ah:aX P cc)
  (hb:z.body=some (.seq (.region i0 #[⟨some 2,.alloc T1,y0,p0,e0,none⟩,⟨some 3,.alloc T2,y1,p1,e1,none⟩] false)
   (.seq (.region i1 #[⟨some 4,.makeFunc (.func cc) #[] #[.tmp 2,.tmp 3],y2,p2,e2,none⟩,⟨none,.defer ⟨.value (.tmp 4),#[],#[]⟩,y3,p3,e3,none⟩] false)
   (.seq (.region i2 #[⟨some 5,.move (.tmp 0),y4,p4,e4,none⟩,⟨some 6,.call ⟨.value (.tmp 5),#[],#[]⟩,y5,p5,e5,none⟩] false)
   (.seq (.region i3 #[⟨none,.store T1 (.tmp 2) (.const (.int .i64 0)),y6,p6,e6,none⟩,⟨none,.store T2 (.tmp 3) (.const (.int .i64 0)),y7,p7,e7,none⟩] false) .ret)))))
  (hn:z.ntmps=7) (Q:z.results = #[.cell 2 T1,.cell 3 T2])
  (aa:∀H,Jm tb T1 H=some (.ptr H.n 0,H.new (.cells [CR]))) (ab:∀H,Jm tb T2 H=some (.ptr H.n 0,H.new (.cells [CR])))
  (ae:∀H h c,GH.cells H h=some [c]->KE tb T1 (.ptr h 0) CR H=some (.un,H.set h (.cells [CR]))) (af:∀H h c,GH.cells H h=some [c]->KE tb T2 (.ptr h 0) CR H=some (.un,H.set h (.cells [CR])))
  (ac:∀H h,GH.cells H h=some [CR]->Hy tb T1 (.ptr h 0) H=some CR) (ad:∀H h,GH.cells H h=some [CR]->Hy tb T2 (.ptr h 0) H=some CR)
  (N:∀o w,o.size=2->CallsDIn (FR none) 0 P cc o .returning w λe u' l=>∃v,e = .returned v/\u' = .returning/\UN w l)
  {G:iP} {g:Nat} {k j:V6 V0} {w:V2} {H s:GH} {c1 c2:GV} (R:lP w0 G H w) (hc:∀i l,G.le i->lP w0 i ((H.new (.cells [CR])).new (.cells [CR])) l->∃x,sY P w0 i g (k++j) l x s) (h1:s.cells H.n=some [c1]) (J:s.cells (H.n+1)=some [c2]):
  sY P w0 G c [.func (.func g) k.toArray j.toArray] w (.tup [CR,CR]) ((((s.set H.n (.cells [CR])).set (H.n+1) (.cells [CR])).del H.n).del (H.n+1)):=by
 refine .inr ⟨ag _ w,?_⟩;refine TE (r:=none) (n:=0) (callsIn_of_wp_defers hf hb trivial ?_);rw[hn];have⟨b,w1,ap,aj,C,R1,U⟩:=MC (P:=P) M R (aa H);have⟨d,y,I,ak,p,R2,V⟩:=MC (P:=P) M R1 (ab _);have⟨x,hx⟩:=hc I y (iP.le_trans C p) R2;refine wpIn_seq (yX Z ?_);refine NW Z (v:=b) (w':=w1) (by simp[execOp,aj]) ?_;refine NW Z (v:=d) (w':=y) (by simp[execOp,ak]) ?_;show Code.wpIn (FR none) 0 P _ _ (⟨#[.func (.func g) k.toArray j.toArray,undef,b,d,undef,undef,undef],[]⟩:Act) y;refine wpIn_seq (wpIn_region_lit ?_);refine wpListIn_plain Z λK hK=>⟨λ_ _=>trivial,?_⟩
 have hm:(Oper.semAt (FR none).round (⟨#[.func (.func g) k.toArray j.toArray,undef,b,d,undef,undef,undef],[]⟩:Act).eval ⟨some 4,.makeFunc (.func cc) #[] #[.tmp 2,.tmp 3],y2,p2,e2,none⟩).run P y = .ok (.value (.func (.func cc) #[] #[b,d])) y:=by
  rw[show(FR none).round=none from rfl,Oper.semAt_none];simp[execOp,Instr.makeFunc,Act.eval]
 rw[hm];refine hK _ _ ?_;show wpListIn _ _ _ _ _ _ (⟨#[.func (.func g) k.toArray j.toArray,undef,b,d,.func (.func cc) #[] #[b,d],undef,undef],[]⟩:Act) y;refine wpListIn_plain Z λK hK=>⟨λ_ _=>trivial,?_⟩
 have hm:(Oper.semAt (FR none).round (⟨#[.func (.func g) k.toArray j.toArray,undef,b,d,.func (.func cc) #[] #[b,d],undef,undef],[]⟩:Act).eval ⟨none,.defer ⟨.value (.tmp 4),#[],#[]⟩,y3,p3,e3,none⟩).run P y = .ok (.defer ⟨.fn (.func cc) #[b,d],#[]⟩) y:=by
  rw[show(FR none).round=none from rfl,Oper.semAt_none];simp[execOp,resolve,Act.eval,Deferred.ofValue]
 rw[hm];refine hK _ _ ?_;show Code.wpIn (FR none) 0 P _ _ (⟨#[.func (.func g) k.toArray j.toArray,undef,b,d,.func (.func cc) #[] #[b,d],undef,undef],[⟨.fn (.func cc) #[b,d],#[]⟩]⟩:Act) y;refine wpIn_seq (yX Z ?_);refine NW Z (v:= .func (.func g) k.toArray j.toArray) (w':=y) (by simp[execOp,Act.eval]) ?_;show Sx.wpList _ _ _ _ (⟨#[.func (.func g) k.toArray j.toArray,undef,b,d,.func (.func cc) #[] #[b,d],.func (.func g) k.toArray j.toArray,undef],[⟨.fn (.func cc) #[b,d],#[]⟩]⟩:Act) y;have go:∀v D m,I.le m->lP w0 m s D->Code.wpIn (FR none) 0 P (.seq (.region i3 #[⟨none,.store T1 (.tmp 2) (.const (.int .i64 0)),y6,p6,e6,none⟩,⟨none,.store T2 (.tmp 3) (.const (.int .i64 0)),y7,p7,e7,none⟩] false) .ret) (bodyPostDIn (FR none) 0 P z λe l=>∃v i,e = .returned v/\G.le i/\lP w0 i ((((s.set H.n (.cells [CR])).set (H.n+1) (.cells [CR])).del H.n).del (H.n+1)) l/\Rl i (.tup [CR,CR]) v) (⟨#[.func (.func g) k.toArray j.toArray,undef,b,d,.func (.func cc) #[] #[b,d],.func (.func g) k.toArray j.toArray,v],[⟨.fn (.func cc) #[b,d],#[]⟩]⟩:Act) D:=by
  intro v D m a L;have hz:∀G,Rl G CR (.int .i64 0):=λG=>.int _ _;have⟨_,w4,aq,al,q,R4⟩:=MF (P:=P) (T:=T1) M L ((U.le p).le a) (hz _) (ae _ _ _ h1);have Y:(s.set H.n (.cells [CR])).cells (H.n+1)=some [c2]:=by
   rw[lO]at J ⊢;rw[xC,Q0];exact J
  have⟨_,X,W,am,u,R5⟩:=MF (P:=P) (T:=T2) M R4 ((V.le a).le q) (hz _) (af _ _ _ Y);refine wpIn_seq (yX Z ?_);refine UJ Z (w':=w4) (by simp[execOp,Act.eval,al]) ?_;refine UJ Z (w':=X) (by simp[execOp,Act.eval,Act.put,am]) ?_;refine wpIn_ret ?_;show LeavesIn (FR none) 0 P z #[.func (.func g) k.toArray j.toArray,undef,b,d,.func (.func cc) #[] #[b,d],.func (.func g) k.toArray j.toArray,v] _ [⟨.fn (.func cc) #[b,d],#[]⟩] .returning X;refine leavesIn_cons (f:=cc) (args:= #[b,d]) V8 (by simp[FR,Fence.wide]) (by simp[invoke,ah _ X]) (λ_ _=>trivial) ?_;refine(N #[b,d] X Z).mono ?_;rintro e u' w6 ⟨x6,rfl,rfl,O⟩;have R6:=R5.ext' O;have F:oK W 7 [(2,.ptr H.n 0),(3,.ptr (H.n+1) 0)] (⟨#[.func (.func g) k.toArray j.toArray,undef,b,d,.func (.func cc) #[] #[b,d],.func (.func g) k.toArray j.toArray,v],[]⟩:Act):=by
   refine⟨rfl,rfl,λt g B=>?_⟩
   rw[Fx]at B;by_cases J:t=2
   .rw[if_pos J]at B;cases B;rw[J];exact(((U.le p).le a).le q).le u
   .rw[if_neg J,Fx]at B;by_cases h3:t=3
    .rw[if_pos h3]at B;cases B;rw[h3];exact((V.le a).le q).le u
    .rw[if_neg h3]at B;cases B
  have E:VZ tb ⟨z.results.toList,0,[]⟩ ⟨[(2,.ptr H.n 0),(3,.ptr (H.n+1) 0)],(s.set H.n (.cells [CR])).set (H.n+1) (.cells [CR])⟩=some ⟨.ret,[CR,CR],(s.set H.n (.cells [CR])).set (H.n+1) (.cells [CR])⟩:=by
   rw[Q];have q1:Hy tb T1 (.ptr H.n 0) ((s.set H.n (.cells [CR])).set (H.n+1) (.cells [CR]))=some CR:=ac _ _ (by rw[lO,xC,Q0,xC,if_pos Z]);have q2:Hy tb T2 (.ptr (H.n+1) 0) ((s.set H.n (.cells [CR])).set (H.n+1) (.cells [CR]))=some CR:=ad _ _ (by rw[lO,xC,if_pos Z]);show ob (ob (Hy tb T1 (.ptr H.n 0) _) λv=>ob (ob (Hy tb T2 (.ptr (H.n+1) 0) _) λv=>ob (some []) λvs=>some (v::vs)) λvs=>some (v::vs)) _=_;rw[q1,q2];rfl
  have⟨_,v6,ao,an⟩:=Lk (fn:=z) (P:=P) M Z F R6 E;exact⟨v6,an,v6,W,rfl,iP.le_trans C (iP.le_trans p (iP.le_trans a (iP.le_trans q u))),(R6.del _).del _,ao⟩
 rcases hx with⟨v,D,m,hr,a,L,_⟩|⟨hr,A⟩
 .refine NW Z (v:=v) (w':=D) (by simpa [execOp,resolve,Act.eval,Deferred.ofValue,invoke]using hr) ?_;exact go v D m a L
 .refine Zj Z (f:=g) (args:=(k++j).toArray) (S:=λv l=>∃i,I.le i/\lP w0 i s l) (by simpa [execOp,resolve,Act.eval,Deferred.ofValue,invoke]using hr) (A.mono ?_) λv D ⟨m,a,L⟩=>go v D m a L;rintro e l ⟨v,i,rfl,ai,R',_⟩;exact⟨v,rfl,i,ai,R'⟩
end
noncomputable section
def VE (n c a:Nat):Nat->V1 Nat:=Nat.rec (motive:=λ_=>Nat->V1 Nat) (λ_=>none) (λ_ b i=>Bool.casesOn (motive:=λ_=>V1 Nat) (Nat.beq (Nat.mod (Nat.shiftRight n (Nat.mul 8 i)) 256) c) (b (Nat.succ i)) (some i)) a
def aln (k:IntKind):V4:=match k with
 | .u8=>true
 |_=>false
def adZ (b f:Nat) (d:V6 GV):V1 GV:=bif Nat.beq f b then List.casesOn (motive:=λ_=>V1 GV) d none (λa r=>List.casesOn (motive:=λ_=>V1 GV) r none λc r=>List.casesOn (motive:=λ_=>V1 GV) r (ob a.asStr λs=>ob c.asI λp=>ob (asN p.2) λk=>
 bif aln p.1 then(bif Nat.blt k 256 then Option.casesOn (motive:=λ_=>V1 GV) (VE s.1 k s.2 0) (some (.int .i64 (.negSucc 0))) (λi=>some (.int .i64 (.ofNat i)))else none)else none) λ_ _=>none)else none
theorem Xq (x:V6 UInt8) (c:Nat) (m:c<256):∀k i,i+k=x.length->(match VE (qO x) c k i with|none=>(-1:Int)|some j=>(j:Int))=(if Lib.indexByte (x.drop i) c.toUInt8 = -1 then -1 else Lib.indexByte (x.drop i) c.toUInt8+i)
 |0,i,h=>by
  rw[List.drop_of_length_le V7];simp[VE,Lib.indexByte]
 | k + 1, i, h =>by
  have o:=Xq x c m k (i+1) V7;have g:i<x.length:=V7
  have e:VE (qO x) c (k+1) i=Bool.casesOn (motive:=λ_=>V1 Nat) (Nat.beq (Nat.mod (Nat.shiftRight (qO x) (Nat.mul 8 i)) 256) c) (VE (qO x) c k (i+1)) (some i):=rfl;rw[e,Xi x i g,List.drop_eq_getElem_cons g];have a:(x[i]).toNat=c↔x[i]=c.toUInt8:=by
   rw[<-UInt8.toNat_inj];have:c.toUInt8.toNat=c:=by simp[Nat.toUInt8];omega
   rw[this]
  unfold Lib.indexByte;cases d:Nat.beq (x[i]).toNat c with
  |true=>
   have:=a.1 (zA4 d);simp[this]
  | false =>
   have f:¬x[i]=c.toUInt8:=λl=>by
    have:=a.2 l;rw[this]at d;simp at d
   have n:=Lib.indexByte_ge (x.drop (i+1)) c.toUInt8;simp only[beq_iff_eq,f,if_false];rw[o];by_cases b:Lib.indexByte (x.drop (i+1)) c.toUInt8 = -1
   .simp[b]
   .rw[if_neg b,if_neg b,Q0]
    push_cast;omega
section
variable {P:Program} {gs:FX} {w0:lJ gs}
theorem ad_ {u:Nat} {l:Func} (F:P.funcs[u]?=some l) (e:(l.name == "runtime.NumGoroutine")=false) (D:l.body.isNone=true) (I:Extern.findNext l=none) (E:Extern.find l=some Extern.BytealgIndexByte.indexByte)
  {f:Nat} {i:V6 GV} {g:GV} (h:adZ u f i=some g) (q:iP) (w:V2) (o:V6 V0) (H:GH) (R:lP w0 q H w) (m:zX q i o):sY P w0 q f o w g H:=by
 unfold adZ at h;replace h:=bZ.1 h;have C:=zA4 h.1;replace h:=h.2;subst C;cases i with
 |nil=>cases h
 |cons a i=>
 cases i with
 |nil=>cases h
 |cons c i=>
 cases i with
 |cons _ _=>cases h
 |nil=>
 have⟨s,L,h⟩:=aH.1 (show ob a.asStr _=some g from h);have⟨p,J,h⟩:=aH.1 h;have⟨k,G,h⟩:=aH.1 h;have⟨x,h⟩:=bZ.1 h;have⟨d,h⟩:=bZ.1 h;obtain⟨v,o,rfl,y,m⟩:=m.of_cons;obtain⟨N,o,rfl,b,m⟩:=m.of_cons;rw[m.of_nil];rw[xI L]at y;rw[qE J]at b;obtain⟨S,rfl,A,M⟩:=y.str_inv;have b:=b.int_inv;subst b;have t:p.1 = .u8:=by cases K:p.1<;>rw[K]at x<;>first|rfl|cases x
 have r:p.2=(k:Int):=Ko G;have d:k<256:=by simpa using d
 refine .inl ⟨.int .i64 (Lib.indexByte S.data.toList p.2.toNat.toUInt8),w,q,?_,iP.le_refl _,R,?_⟩
 .rw[run_callFunc_extern F e D I E,t,Lib.run_indexByteString];rfl
 .have n:=Xq (cE S) k d s.2 0 V7;rw[A]at h;rw[List.drop_zero]at n;have B:Lib.indexByte S.data.toList p.2.toNat.toUInt8=(match VE (qO (cE S)) k s.2 0 with|none=>(-1:Int)|some j=>(j:Int)):=by
   rw[n,r];have:cE S=S.data.toList:=rfl;rw[this];simp only[zA7];split
   .assumption
   .omega
  rw[B];cases z:VE (qO (cE S)) k s.2 0 with
  |none=>rw[z]at h;cases h;exact .int _ _
  |some j=>rw[z]at h;cases h;exact .int _ _
end
end
noncomputable section
def aha {a:Type} (c:Nat) (d:V6 GV->V1 a) (n:Nat):V6 GV->V1 (V6 a):=Nat.rec (motive:=λ_=>V6 GV->V1 (V6 a)) (λ_=>some []) (λ_ e b=>ob (d (b.take c)) λy=>ob (e (b.drop c)) λf=>some (y::f)) n
def YA {b:Type} (H:GH) (a:Nat) (d:V6 GV->V1 b) (v:GV):V1 (V6 b):=ob (zB H a v) λp=>bif Nat.ble p.1 1099511627776 then aha a d p.1 p.2 else none
def dI (k:IntKind) (a:V6 GV):V1 Int:=List.casesOn (motive:=λ_=>V1 Int) a none λc r=>List.casesOn (motive:=λ_=>V1 Int) r (ob c.asI λp=>bif decide (p.1=k)then some p.2 else none) λ_ _=>none
def dP {b c:Type} (n:Nat) (d:V6 GV->V1 b) (e:V6 GV->V1 c) (a:V6 GV):V1 (b×c):=ob (d (a.take n)) λx=>ob (e (a.drop n)) λy=>some (x,y)
def dS {a:Type} (H:GH) (e:Nat) (d:V6 GV->V1 a) (b:V6 GV):V1 (V6 a):=List.casesOn (motive:=λ_=>V1 (V6 a)) b none λc r=>List.casesOn (motive:=λ_=>V1 (V6 a)) r (YA H e d c) λ_ _=>none
end
section
variable {P:Program} {gs:FX} {w0:lJ gs} {w:V2} {ρ:iP} {H:GH} {S:Nat->Prop}
def All (_:Nat):Prop:=True
def Eg {b c:Type} (S:Nat->Prop) (ρ:iP) (w:V2) (d:V6 GV->V1 c) (r:iN b) (e:b->c):Prop:=∀gs a y,zX ρ gs a->d gs=some y->gs.length=r.sz->∃z,e z=y/\r.R w S a z
theorem Eg.int (k:IntKind):Eg S ρ w (dI k) (iN.int k) id:=λgs f y b h _=>by
 cases gs with
 |nil=>cases h
 |cons c gs=>
 cases gs with
 |cons _ _=>cases h
 |nil=>
 have⟨p,e,h⟩:=aH.1 (show ob c.asI _=some y from h);have⟨a,h⟩:=bZ.1 h;cases h;obtain⟨v,f,rfl,d,b⟩:=b.of_cons;rw[b.of_nil];rw[qE e]at d;rw[d.int_inv];have a:=of_decide_eq_true a;exact⟨p.2,rfl,by rw[a];rfl⟩
theorem Eg.pair {q t b c:Type} {d:V6 GV->V1 b} {e:V6 GV->V1 c} {r:iN q} {s:iN t} {m:q->b} {n:t->c} (u:Eg S ρ w d r m) (A:Eg S ρ w e s n):Eg S ρ w (dP r.sz d e) (iN.pair r s) (λz=>(m z.1,n z.2)):=λgs l y f h p=>by
 have⟨x,B,h⟩:=aH.1 (show ob (d (gs.take r.sz)) _=some y from h);have⟨F,j,h⟩:=aH.1 h;cases h;have p:gs.length=r.sz+s.sz:=p;have E:=f.len;obtain⟨z,rfl,C⟩:=u _ (l.take r.sz) _ (by simpa using f.sub 0 r.sz) B Q1;obtain⟨D,rfl,k⟩:=A _ (l.drop r.sz) _ ⟨Q1,λi g v o a=>by rw[zAq]at o a;exact f.at' _ _ _ o a⟩ j Q1;exact⟨(z,D),rfl,_,_,(zB0 r.sz l).symm,C,k⟩
theorem Xg {C D:Type} {d:V6 GV->V1 D} {r:iN C} {E:C->D} (F:Eg S ρ w d r E) (b:Nat):∀(n:Nat) (f:V6 GV) (m:V6 V0) (a:Nat) (l:V6 D),aha r.sz d n f=some l->zX ρ f m->f.length=n*r.sz->(∀(j:Nat) x,m[j]?=some x->w.cell? ⟨b,a+j,none⟩=some x)->
  ∃p:V6 C,p.map E=l/\p.length=n/\∀(i:Nat) z,p[i]?=some z->∃q,(∀(j:Nat) e,q[j]?=some e->w.cell? ⟨b,a+(i*r.sz+j),none⟩=some e)/\r.R w S q z
 |0,f,m,a,l,h,hr,hl,hc=>by
  cases h;exact⟨[],rfl,rfl,λi z t=>by simp at t⟩
 | n + 1, f, m, a, l, h, hr, hl, hc =>by
  have⟨y,M,h⟩:=aH.1 (show ob (d (f.take r.sz)) (λy=>ob (aha r.sz d n (f.drop r.sz)) λl=>some (y::l))=some l from h);have⟨B,s,h⟩:=aH.1 h;cases h;rw[Nat.succ_mul]at hl;have O:=hr.len;obtain⟨z,rfl,t⟩:=F _ (m.take r.sz) _ (by simpa using hr.sub 0 r.sz) M Q1;obtain⟨p,rfl,u,A⟩:=Xg F b n (f.drop r.sz) (m.drop r.sz) (a+r.sz) B s ⟨Q1,λi g v G o=>by rw[zAq]at G o;exact hr.at' _ _ _ G o⟩ Q1 (λj x J=>by
   rw[zAq]at J;rw[Nat.add_assoc];exact hc _ _ J)
  refine⟨z::p,rfl,by simp[u],λi N c=>?_⟩
  cases i with
  | zero =>
   simp at c;subst c;refine⟨_,λj e k=>?_,t⟩
   rw[zAn]at k;by_cases I:j<r.sz
   .rw[if_pos I]at k;have:=hc j e k;simpa using this
   .rw[if_neg I]at k;cases k
  |succ i=>
   simp at c;have⟨q,K,L⟩:=A i N c;refine⟨q,λj e k=>?_,L⟩
   have:=K j e k;rw[Nat.succ_mul];rw[show a+(i*r.sz+r.sz+j)=a+r.sz+(i*r.sz+j) by omega];exact this
theorem TL (R:lP w0 ρ H w) {v:GV} {V:V0} {B:Nat} {p:Nat×V6 GV} (t:Rl ρ v V) (h:zB H B v=some p):
  p.2.length=p.1*B/\∃a c,V = .slice a p.1 c/\p.1<=c/\(p.1=0\/∃b i o,a=some ⟨b,i,none⟩/\w0.mine b/\zX ρ p.2 o/\∀(j:Nat) x,o[j]?=some x->w.cell? ⟨b,i+j,none⟩=some x):=by
 have⟨o,C⟩:=HO R t h;refine⟨by rw[C.rel.len,C.len],?_⟩
 have⟨f,c,y,D,F⟩:=C.val;refine⟨f,c,y,D,?_⟩
 rcases F with⟨_,m,_⟩|⟨A,rfl,d⟩
 .exact .inl m
 .by_cases m:p.1=0
  .exact .inl m
  .refine .inr ?_;unfold zB at h;cases z:v.isSnil with
   |true=>rw[z]at h;cases h;exact absurd Z m
   | false =>
    rw[z]at h;have⟨s,I,h⟩:=aH.1 (show ob v.asS _=some p from h);rw[GN I,y]at t;have⟨l,u,K,G,e,E,n⟩:=t.sl_inv;injection e with k M N;injection k with k;rcases n with n|⟨n,_⟩
    .omega
    .rw[n]at k;subst k;have r:w0.mine l.b:=by
      have⟨_,h⟩:=bZ.1 h;have⟨L,q,_⟩:=aH.1 h;have⟨O,g,r,_⟩:=R.live _ _ (lO.1 q);rw[G]at g;cases g;exact r
     exact⟨l.b,l.off+s.2.1,o,rfl,r,C.rel,λj x J=>by have:=d j x J;rwa[gQ]at this⟩
theorem NE {m n:Type} {d:V6 GV->V1 n} {r:iN m} {o:m->n} (R:lP w0 ρ H w) (t:∀k,w0.mine k->S k) (u:Eg S ρ w d r o) {v:GV} {V:V0} {j:V6 n} (B:Rl ρ v V) (h:YA H r.sz d v=some j):∃l:V6 m,l.map o=j/\LG r w S V l:=by
 have⟨p,z,h⟩:=aH.1 (show ob (zB H r.sz v) _=some j from h);have⟨g,h⟩:=bZ.1 h;have g:p.1<=1099511627776:=by simpa using g
 obtain⟨i,a,f,rfl,E,x⟩:=TL R B z;rcases x with q|⟨b,e,D,rfl,y,A,c⟩
 .rw[q]at h;cases h;exact⟨[],rfl,a,f,by rw[q];rfl,V8,.inl Z⟩
 .obtain⟨l,rfl,s,C⟩:=Xg u b p.1 p.2 D e j h A i c;exact⟨l,rfl,some ⟨b,e,none⟩,f,by rw[s],by rw[s];omega,.inr ⟨b,e,rfl,t b y,C⟩⟩
theorem Eg.sl {e f:Type} {d:V6 GV->V1 f} {r:iN e} {b:e->f} (R:lP w0 ρ H w) (g:∀k,w0.mine k->S k) (i:Eg S ρ w d r b):Eg S ρ w (dS H r.sz d) (iN.sl r) (λz=>z.2.map b):=λgs m y a h o=>by
 cases gs with
 |nil=>cases h
 |cons c gs=>
 cases gs with
 |cons _ _=>cases h
 |nil=>
 have h:YA H r.sz d c=some y:=h;obtain⟨v,m,rfl,j,a⟩:=a.of_cons;rw[a.of_nil];obtain⟨n,rfl,l⟩:=NE R g i j h;exact⟨(v,n),rfl,rfl,l⟩
end
section
variable {P:Program} {gs:FX} {w0:lJ gs} {w:V2} {ρ:iP} {H:GH}
theorem Kv {f:Nat} {a:V6 V0} {L:V6 bF} {V:V0} {g:GV} (c:aX P f) (d:aZ P f a.toArray L (λ_:Unit=>V) (λ_ l=>l) (λ_ l=>l)) (R:lP w0 ρ H w) (b:∀h∈L,h.p w All) (i:∀ρ,Rl ρ g V):sY P w0 ρ f a w g H:=by
 refine .inr ⟨c _ w,(d w All b).mono ?_⟩;rintro e j ⟨_,rfl,t⟩;exact⟨V,ρ,rfl,iP.le_refl _,R.ext' t.old.ext,i _⟩
end
noncomputable section
def aas (H:GH) (v:GV):V1 (V6 Int):=YA H 1 (dI .i64) v
def aau (H:GH) (v:GV):V1 (V6 (V6 (Int×Int))):=YA H 1 (dS H 2 (dP 1 (dI .i64) (dI .i64))) v
def aar (H:GH) (v:GV):V1 (V6 Int×V6 (V6 (Int×Int))):=ob v.asA λc=>List.casesOn (motive:=λ_=>V1 (V6 Int×V6 (V6 (Int×Int)))) c none λa r=>List.casesOn (motive:=λ_=>V1 (V6 Int×V6 (V6 (Int×Int)))) r none λb r=>List.casesOn (motive:=λ_=>V1 (V6 Int×V6 (V6 (Int×Int)))) r (ob (aas H a) λx=>ob (aau H b) λy=>some (x,y)) λ_ _=>none
end
section
variable {P:Program} {gs:FX} {w0:lJ gs} {w:V2} {ρ:iP} {H:GH}
theorem aat (R:lP w0 ρ H w) {v:GV} {V:V0} {a:V6 Int} (b:Rl ρ v V) (h:aas H v=some a):(Sl (iN.int .i64) V a).p w All:=by
 obtain⟨d,rfl,c⟩:=NE R (λ_ _=>trivial) (Eg.int .i64) b h;rw[List.map_id];exact c
theorem Yz (R:lP w0 ρ H w) {v:GV} {V:V0} {b:V6 (V6 (Int×Int))} (c:Rl ρ v V) (h:aau H v=some b):∃a,(S2 (iN.pair (iN.int .i64) (iN.int .i64)) V a b).p w All:=by
 obtain⟨a,rfl,d⟩:=NE R (λ_ _=>trivial) (Eg.sl R (λ_ _=>trivial) (Eg.pair (Eg.int .i64) (Eg.int .i64))) c h;exact⟨a,d,V8⟩
theorem Yy (R:lP w0 ρ H w) {v:GV} {V:V0} {p:V6 Int×V6 (V6 (Int×Int))} (j:Rl ρ v V) (h:aar H v=some p):∃e f i,V = .agg #[e,f]/\(Sl (iN.int .i64) e p.1).p w All/\(S2 (iN.pair (iN.int .i64) (iN.int .i64)) f i p.2).p w All:=by
 have⟨c,g,h⟩:=aH.1 (show ob v.asA _=some p from h);rw[Ri g]at j;obtain⟨k,rfl,d,_⟩:=j.agg_inv;cases c with
 |nil=>cases h
 |cons a c=>
 cases c with
 |nil=>cases h
 |cons b c=>
 cases c with
 |cons _ _=>cases h
 |nil=>
 have⟨x,n,h⟩:=aH.1 (show ob (aas H a) _=some p from h);have⟨y,o,h⟩:=aH.1 h;cases h;obtain⟨e,k,rfl,l,d⟩:=d.of_cons;obtain⟨f,k,rfl,m,d⟩:=d.of_cons;rw[d.of_nil];have⟨i,q⟩:=Yz R m o;exact⟨e,f,i,rfl,aat R l n,q⟩
end
noncomputable section
section
variable {α R:Type}
def a0 (a:V6 α) (k:V1 R):V1 R:=List.casesOn (motive:=λ_=>V1 R) a k (λ_ _=>none)
def a1 (b:V6 α) (k:α->V1 R):V1 R:=List.casesOn (motive:=λ_=>V1 R) b none λa r=>a0 r (k a)
def a2 (b:V6 α) (k:α->α->V1 R):V1 R:=List.casesOn (motive:=λ_=>V1 R) b none λa r=>a1 r (k a)
def a3 (b:V6 α) (k:α->α->α->V1 R):V1 R:=List.casesOn (motive:=λ_=>V1 R) b none λa r=>a2 r (k a)
def a4 (b:V6 α) (k:α->α->α->α->V1 R):V1 R:=List.casesOn (motive:=λ_=>V1 R) b none λa r=>a3 r (k a)
def a5 (us:V6 α) (k:α->α->α->α->α->V1 R):V1 R:=List.casesOn (motive:=λ_=>V1 R) us none λa r=>a4 r (k a)
def a6 (us:V6 α) (k:α->α->α->α->α->α->V1 R):V1 R:=List.casesOn (motive:=λ_=>V1 R) us none λa r=>a5 r (k a)
theorem acA {a:V6 α} {k:V1 R} {r:R} (h:a0 a k=some r):a=[]/\k=some r:=by
 cases a with
 |nil=>exact⟨rfl,h⟩
 |cons _ _=>cases h
theorem WF {a:V6 α} {k:α->V1 R} {r:R} (h:a1 a k=some r):∃x,a=[x]/\k x=some r:=by
 cases a with
 |nil=>cases h
 |cons x a=>obtain⟨rfl,h⟩:=acA h;exact⟨x,rfl,h⟩
theorem acB {a:V6 α} {k:α->α->V1 R} {r:R} (h:a2 a k=some r):∃x y,a=[x,y]/\k x y=some r:=by
 cases a with
 |nil=>cases h
 |cons x a=>obtain⟨y,rfl,h⟩:=WF h;exact⟨x,y,rfl,h⟩
theorem acC {a:V6 α} {k:α->α->α->V1 R} {r:R} (h:a3 a k=some r):∃x y z,a=[x,y,z]/\k x y z=some r:=by
 cases a with
 |nil=>cases h
 |cons x a=>obtain⟨y,z,rfl,h⟩:=acB h;exact⟨x,y,z,rfl,h⟩
theorem WG {a:V6 α} {k:α->α->α->α->V1 R} {r:R} (h:a4 a k=some r):∃x y z u,a=[x,y,z,u]/\k x y z u=some r:=by
 cases a with
 |nil=>cases h
 |cons x a=>obtain⟨y,z,u,rfl,h⟩:=acC h;exact⟨x,y,z,u,rfl,h⟩
end
def dSc (k:IntKind) (v:GV):V1 Int:=ob v.asI λp=>bif eqK p.1 k then some p.2 else none
def aav (H:GH) (v:GV):V1 (V6 Int):=YA H 1 (dI .u32) v
def abr (b:V4) (H:GH):OR:=Bool.casesOn (motive:=λ_=>OR) b (some (.bool false,H)) (some (.bool true,H))
end
section
variable {P:Program} {gs:FX} {w0:lJ gs} {w:V2} {ρ:iP} {H H':GH} {g:GV}
theorem zX.one {x:GV} {vs:V6 V0} (h:zX ρ [x] vs):∃V,vs=[V]/\Rl ρ x V:=by
 obtain⟨v,vs,rfl,a,b⟩:=h.of_cons;rw[b.of_nil];exact⟨v,rfl,a⟩
theorem Me {k:IntKind} {v:GV} {V:V0} {n:Int} (a:Rl ρ v V) (h:dSc k v=some n):V = .int k n:=by
 have⟨p,c,h⟩:=aH.1 (show ob v.asI _=some n from h);have⟨b,h⟩:=bZ.1 h;cases h;rw[qE c]at a;rw[a.int_inv,Mi b]
theorem TN (R:lP w0 ρ H w) {v:GV} {V:V0} {a:V6 Int} (b:Rl ρ v V) (h:aav H v=some a):(Sl (iN.int .u32) V a).p w All:=by
 obtain⟨d,rfl,c⟩:=NE R (λ_ _=>trivial) (Eg.int .u32) b h;rw[List.map_id];exact c
theorem ON {b:V4} (h:abr b H=some (g,H')):g = .bool b/\H'=H:=by
 cases b<;>cases h<;>exact⟨rfl,rfl⟩
def glb (b:Nat) (a:V6 V0) (T:Nat):FX:=⟨[(b,.cells a.toArray T (0,0))],[]⟩
theorem ahp {b:Nat} {a:V6 V0} (w:V2) (S:Nat->Prop) (h:∀h∈[Gb b a],h.p w S):∃T,SP (glb b a T) w λ_=>False:=by
 have⟨_,T,c⟩:=h _ (List.mem_singleton.2 Z);exact⟨T,λp d=>by obtain rfl:=List.mem_singleton.1 d;exact⟨c,id⟩⟩
theorem lP.glb {b:Nat} {a:V6 V0} {T:Nat} {c:lJ (glb b a T)} {w:V2} {ρ:iP} {H:GH} (R:lP c ρ H w):(Gb b a).p w All:=⟨trivial,T,(R.glo _ (List.mem_singleton.2 Z)).1⟩
theorem RP {gs:Nat->FX} {f:Nat} {V:V0} {L:V6 bF} (q:∀w S,(∀h∈L,h.p w S)->∃T,SP (gs T) w λ_=>False) (r:aX P f) (y:∀ρ d,Rl ρ g d->d=V) (h:∀T (b:lJ (gs T)),sY P b (λ_=>none) f [] b.w g H'):aZ P f #[] L (λ_:Unit=>V) (λ_ l=>l) (λ_ l=>l):=by
 intro w0 o z;have⟨T,n⟩:=q w0 o z;rcases h T (.of w0 n)with⟨v,A,c,a,_⟩|⟨_,s⟩
 .have x:=r #[] w0;rw[show([]:V6 V0).toArray = #[]from rfl]at a;rw[show(lJ.of w0 n).w=w0 from rfl,x]at a;cases a
 refine s.mono ?_;rintro e A ⟨v,c,rfl,_,R,a⟩;exact⟨(),by rw[y _ _ a],R.ext,λ_ _=>False,⟨λi m u=>by simp at u,λi k h=>h.elim,λi j k h=>h.elim⟩,λf t=>by simp at t⟩
section
variable {tb:TB} {T:V9}
theorem WH (h:Ha tb T=some [CR]) (H:GH):Jm tb T H=some (.ptr H.n 0,H.new (.cells [CR])):=by
 unfold Jm;rw[h];show H.newK (.cells [CR]) (λh H'=>some (GV.ptr h 0,H'))=_;rw[mR]
theorem XQ {t:Ty} (h:tb T=some t) (e:t.size=1) (H:GH) (k:Nat) (c:GV) (d:GH.cells H k=some [c]):KE tb T (.ptr k 0) CR H=some (.un,H.set k (.cells [CR])):=by
 show ob (H.cells k) (λb=>ob (tb T) λt=>bif Nat.beq 1 t.size then bif Nat.beq t.size 0 then none else ob (KU [CR] 0 b) λa=>H.setK k (.cells a) λH'=>some (GV.un,H')else none)=_;rw[d,h];show(bif Nat.beq 1 t.size then bif Nat.beq t.size 0 then none else ob (KU [CR] 0 [c]) λa=>H.setK k (.cells a) λH'=>some (GV.un,H')else none)=_;rw[e];show H.setK k (.cells [CR]) (λH'=>some (GV.un,H'))=_;rw[CW]
theorem abe {t:Ty} (h:tb T=some t) (b:Bh t.desc=false) (H:GH) (k:Nat) (c:GH.cells H k=some [CR]):Hy tb T (.ptr k 0) H=some CR:=by
 show ob (H.cells k) (λa=>ob (tb T) λt=>GA t a 0)=_;rw[c,h];show GA t [CR] 0=_;unfold GA;rw[b];rfl
end
def RA (a:Func):V6 V5:=match a.body with
 |some (.seq (.region _ ops _) _)=>ops.toList
 |_=>[]
def aaf (a:Func):Code:=match a.body with
 |some (.seq _ c)=>c
 |_=>.skip
def adL (a:Func):Nat:=match RA a with
 |o::_=>o.dst.getD 0
 | []=>0
def okN (r:RS):V4:=match r with
 |some o=>match o.e with
  | .normal=>true
  |_=>false
 |none=>false
theorem abt {r:RS} (h:okN r=true):∃a,r=some a/\a.e = .normal:=by
 unfold okN at h;cases r with
 |none=>cases h
 |some o=>
  refine⟨o,rfl,?_⟩
  cases b:o.e<;>simp only[b]at h<;>first|rfl|cases h
def okT (r:OR):V4:=match r with
 |some (.bool true,_)=>true
 |_=>false
theorem abu {r:OR} (h:okT r=true):∃H',r=some (.bool true,H'):=by
 unfold okT at h;split at h
 .exact⟨_,rfl⟩
 .cases h
end
end Go.Gx
namespace Go.Proofs.YtemmagadjnlajaaGreatDoor
open Go.Sx
def uV (U:Nat) (a:Int):V1 (Int):=
 if a=(0:Int)then(some (32:Int))else(ck (0<=(27:Int)) (ck ((0<=(Rm .u32 (wI .u32 ((Fv .u32 a (wI .u32 (0 - a)))*(125613361:Int))) (27:Int))/\(Rm .u32 (wI .u32 ((Fv .u32 a (wI .u32 (0 - a)))*(125613361:Int))) (27:Int))<((32:Nat):Int))/\Jk.length=32) (some (wI .i64 (at' Jk (Rm .u32 (wI .u32 ((Fv .u32 a (wI .u32 (0 - a)))*(125613361:Int))) (27:Int)))))))
theorem WV:aX prog 181:=call181
theorem Cz {b:Int} (r:Int) (h:uV U b=some r):
  aZ prog 181 #[vU (b)] [Gb 0 (cellsOf UW Jk)] (λx:Unit=>vI (r)) (λx l=>l) (λ_ l=>l):=by
 refine aZ.of func181 Z ntmps181 Z λc=>Q3 Z<|aI<|Q5 Z<|bP Z<|aM<|eF h Z (λh=>?_) λh=>?_
 .refine Q3 Z<|aP<|aG ?_;cases h;exact gM Z
 refine bK<|Q5 Z<|aA Z<|aC (WE Z) Z<|Le Z<|aC (C_ Z Z) Z<|eX h λd h=>aC (afe Z Z d) Z<|eX h λa h=>aC (Tt Z Z Z Z Z a.1) Z<|aC (Ym (e:=UW) Z (cG Z) Z Z Z Z a) Z<|aC (ZS Z Z Z) Z<|Q4 Z<|aP ?_;cases h;exact gM Z
def qC (a:Unit):V1 V4:=
 some (true)
def wS (d:bN) (e a:Int) (c:(Int)->V1 V4):V1 V4:=
 if a≠(0:Int)then(Option.bind (uV U a) λb=>(ck (0<=b/\b<(d.length:Int)) (if(Fv .u32 (at' d b) e)≠(0:Int)then(some (false))else(c (Fv .u32 a (wI .u32 (a - (1:Int))))))))else(qC (()))
def qD (c:bN) (a:Int) (b:Unit):V1 V4:=
 bG (wS U c a) U (a)
def qZ (a:bN) (b:Int):V1 V4:=
 qD U a b (())
theorem adm:aX prog 176:=call176
theorem FN (U:Nat) {n:bN} {e:Int} (k:V0) (r:Bool) (h:qZ U n e=some r):
  aZ prog 176 #[k,vU (e)] [Sl Re k n,Gb 0 (cellsOf UW Jk)] (λx:Unit=>vB (r)) (λx l=>l) (λ_ l=>l):=by
 refine aZ.of func176 Z ntmps176 Z λc=>?_;unfold qZ at h;refine jY Tn<|aT<|eH (Know.one ((cG Z))) λw=>?_;refine aK (aO.box (cs:=[k]) Z (by rw[eW w])) Z λC=>?_;refine aK (aO.box (cs:=[vU (e)]) Z Z) Z λD=>aK (aO.alloc (cs:=[vB (false)]) Z Z) Z λE=>let j:=bU E [vB (false)] 4;aM<|aI<|Vb (A:=Unit) (B:=vV) (λm g=>⟨16,OF g⟩) (λm=>qC m=some r) (λm g=>[(4,vP E)]) (λm g=>[j,QV g]) (λm g=>[Sl Re k n,Gb 0 (cellsOf UW Jk)]) ?_ ?_
 .refine aT<|bY 1 Z<|IC (A:=Unit) (B:=Nat) (vs:=[vU (e)]) (λb=>qD U n e b=some r) (λb a=>Value.func (.func 180) #[] #[vP a]) (λb a=>[bU a [vU (e)] 46,j,bU D [vU (e)] 46,bU C [k] 118,QV ([]:vV)]) (λb a=>[Sl Re k n,Gb 0 (cellsOf UW Jk)]) (BB.fn (show aX prog 155 from call155) Z) func155 Z ntmps155 Z Z ?_ ?_
  .refine aT<|aK (aO.box (cs:=[vU (e)]) Z Z) Z λp=>aB Z<|aM<|aT<|aC (Kn (cs:=[.tmp 1]) (vs:=[vP p]) Z) Z<|aB Z<|aM<|aP ?_;exact uT () (p) h (.inl Z) (Kk.r1 Z (RV.tmp Z)) Z (aW.refl _) (aE.refl _ _)
  intro b a h;unfold qD at h;refine aM<|aU<|KL (i:=4) (cs:=[vP a]) ([]:vV) Z (show aX prog 180 from call180) Z func180 Z ntmps180 Z λt f v q=>aU<|eP (wS U n e) (λd o=>[(0,CO t),(1,vP a)]) (λd o=>[Lp t v LoopState.ready none,bU a [vU (d)] 46,j,bU D [vU (e)] 46,bU C [k] 118,QV (List.cons f ([]:vV))]) (e) () h SF (aW.refl _) ?_;intro F d o h;refine aI<|aT<|bY 1 Z<|lK Z<|aM ?_;refine eF h Z (λh=>?_) λh=>?_
  .refine bK<|aI<|aU<|aT<|aA Z<|bY 1 Z<|dG h λu y h=>aK (zB8 WV (Cz U u y) Z (gK [1] Z)) Z λG=>SS (us:=[vI (u)]) (i:=0) q Z Z Z Z Z Z<|aL<|aB Z<|aM<|Wz (i:=0) Z<|aU<|aI ?_;refine xP [0,0,3,7,0,31,63] 5 mixedOrders ?_;refine iH 4 Z<|bE Z<|eX h λs h=>bI Z .nil (jP 0 Z) (a_ Z Z (cG Z) Z Z s) aR.z<|bI Z .nil (jP 0 Z) (eC Z (cG Z) Z Z Z ZJ s) aR.z<|iH 3 Z<|bS 5 Z Z<|Le Z<|lK Z<|aM ?_;refine eF h Z (λh=>?_) λh=>?_
   .refine aT<|i_ 2 Z Z Z Z Z Z<|aM<|aP<|bB<|ZC (i:=0) Z<|aC (fF Z) Z<|aM<|WA Z<|aP<|bB<|aG<|aG<|bB<|acs (i:=0) (.inl Z) Z (Kk.r0 Z)<|bB<|aG<|xF (i:=5) (Ds:=(List.cons f ([]:vV))) (.inl Z) Z ?_;cases h;exact mS () Z Z (Tf 2 Z Z Z Z) .nil aE.nil
   refine cZ<|JO<|N_ (i:=0) Z<|aC (fF Z) Z<|aM<|Np Z<|cZ<|jZ<|aL<|bY 1 Z<|bY 1 Z<|aC (kT Z Z) Z<|Le Z<|i_ 1 Z Z Z Z Z Z<|aM ?_;exact Ac (Fv .u32 d (wI .u32 (d - (1:Int)))) () h SF Z
  refine uS<|gY<|gY<|BC<|ZB (i:=0) (.inr Z) Z (Kk.r0 Z)<|jZ ?_;exact Nq () (List.cons f ([]:vV)) Z h SF (aW.ix [2,5] Z Z) (aE.refl _ _)
 intro m g h;unfold qC at h;refine aT<|i_ 0 Z Z Z Z Z Z<|aM<|aP<|xF (i:=1) (Ds:=(g)) (.inl Z) Z ?_;cases h;exact mS () Z Z (Tf 0 Z Z Z Z) .nil aE.nil
def tE (d:bN) (b e a:Int) (c:V4):V1 V4:=
 if c=true then(some (false))else(if b=(1:Int)then(some (decide ((Fv .u32 a (wI .u32 (a - (1:Int))))=(0:Int))))else(if b=(2:Int)then(Option.bind (qZ U d a) λf=>(some (f)))else(if b=(4:Int)then(some (decide (a=e)))else(some (true)))))
def BR (c:bN) (d b a:Int):V1 V4:=
 if a=(0:Int)then(tE U c d b a (true))else(tE U c d b a (decide ((NA .u32 a b)≠(0:Int))))
theorem adg:aX prog 152:=call152
theorem Ih {p0:bN} {p1 p2 p3:Int} (b:V0) (r:V4) (h:BR U p0 p1 p2 p3=some r):
  aZ prog 152 #[b,vI (p1),vU (p2),vU (p3)] [Sl Re b p0,Gb 0 (cellsOf UW Jk)] (λx:Unit=>vB (r)) (λx l=>l) (λ_ l=>l):=by
 refine aZ.of func152 Z ntmps152 Z λc=>Q3 Z<|aI<|aI<|cC (λa=>tE U p0 p1 p2 p3 a=some r) (λa d=>[(0,b),(1,vI (p1)),(2,vU (p2)),(3,vU (p3)),(16,vB (a))]) (λa d=>[]) ?_ ?_
 .refine aL<|aA Z<|bP Z<|aA Z<|mL h Z (λ_ h=>?_) λ_ h=>?_
  .exact aD Z<|aD Z<|aD Z<|aD Z<|bO Z<|aM<|cF (true) () h SF Z
  exact bH Z<|bH Z<|aF Z (ZQ Z Z) Z<|aF Z (xH Z Z) Z<|bT Z<|aM<|cF (decide ((NA .u32 p3 p2)≠(0:Int))) () h SF Z
 intro a d h;refine iA h Z (λ_ h=>?_) λ_ h=>?_
 .refine Q3 Z<|aP<|aG ?_;cases h;exact gM Z
 refine bK<|aI<|Q5 Z<|aM<|aU<|aT<|bP Z<|Q4 Z<|eF h Z (λh=>?_) λh=>?_
 .refine Q5 Z<|aA Z<|aC (kT Z Z) Z<|Le Z<|bP Z<|Q4 Z<|aP<|bB<|aG ?_;cases h;exact gM Z
 refine aT<|bP Z<|Q4 Z<|eF h Z (λh=>?_) λh=>?_
 .refine Q5 Z<|aA Z<|dG h λe f h=>aK (zB8 adm (FN U b e f) Z (gK [0,1] Z)) Z λg=>Q4 Z<|aP<|bB<|aG ?_;cases h;exact gM Z
 refine aT<|bP Z<|Q4 Z<|eF h Z (λh=>?_) λh=>?_
 .refine Q5 Z<|aA Z<|bP Z<|Q4 Z<|aP<|bB<|aG ?_;cases h;exact gM Z
 refine cZ<|jZ<|Q3 Z<|aP ?_;cases h;exact gM Z
def tG (a:Int):V1 (Int):=
 some (a)
def pM (a:dJ) (b:dW->V1 (Int)) (c:Int):V1 (Int):=
 b ((Fv .u32 a.1 (wI .u32 (a.1 - (1:Int)))),c)
def tI (d:bN) (a:dJ) (c:dW->V1 (Int)):V1 (Int):=
 if a.1≠(0:Int)then(Option.bind (uV U a.1) λb=>(ck (0<=b/\b<(d.length:Int)) (if(Fv .u32 (at' d b) a.2)=(0:Int)then(ck (0<=b) (pM a c (bOr .u32 a.2 (Tx .u32 (1:Int) b))))else(pM a c (a.2)))))else(tG (a.2))
def tH (c:bN) (b:Int) (a:Unit):V1 (Int):=
 bG (tI U c) U (b,(0:Int))
def tF (c:bN) (b d a:Int):V1 (Int):=
 if b=(1:Int)then(some (Fv .u32 a (wI .u32 (0 - a))))else(if b=(2:Int)then(tH U c a (()))else(if b=(4:Int)then(some (d))else(some (a))))
def BS (b:bN) (c a d:Int):V1 (Int):=
 if(Fv .u32 d a)=(0:Int)then(tF U b c a (Fv .u32 a (wI .u32 (0 - a))))else(tF U b c a (Fv .u32 d a))
theorem acO:aX prog 109:=call109
theorem Ii (U:Nat) {p0:bN} {p1 p2 p3:Int} (q:V0) (r:Int) (h:BS U p0 p1 p2 p3=some r):
  aZ prog 109 #[q,vI (p1),vU (p2),vU (p3)] [Sl Re q p0,Gb 0 (cellsOf UW Jk)] (λx:Unit=>vU (r)) (λx l=>l) (λ_ l=>l):=by
 let o:=Gb 0 (cellsOf UW Jk);refine aZ.of func109 Z ntmps109 Z λc=>?_;refine jY Tn<|aT<|eH (Know.one ((cG Z))) λF=>?_;refine aK (aO.box (cs:=[q]) Z (by rw[eW F])) Z λJ=>let k:=bU J [q] 118;?_
 refine aB Z<|aM<|aT<|aA Z<|aA Z<|Le Z<|aB Z<|aM<|aI<|Vb (A:=Int) (B:=Unit) (λg D=>⟨48,OF ([]:vV)⟩) (λg=>tF U p0 p1 p2 g=some r) (λg D=>[(1,vI (p1)),(2,vU (p2)),(3,vU (g)),(4,vP J),(8,vU (0:Int))]) (λg D=>[k,QV ([]:vV)]) (λg D=>[Sl Re q p0,o]) ?_ ?_
 .refine aT<|aA Z<|bP Z<|aM ?_;refine eF h Z (λh=>?_) λh=>?_
  .refine aL<|aA Z<|aA Z<|aC (WE Z) Z<|Le Z<|aB Z<|aM ?_;exact Nq (Fv .u32 p2 (wI .u32 (0 - p2))) () Z h SF (aW.refl _) (aE.refl _ _)
  refine bK ?_;exact Nq (Fv .u32 p3 p2) () Z h SF (aW.refl _) (aE.refl _ _)
 intro g D h;refine aI<|aT<|aA Z<|aM<|aU<|aT<|bP Z<|aB Z<|aM ?_;refine eF h Z (λh=>?_) λh=>?_
 .refine aT<|aA Z<|aA Z<|aC (WE Z) Z<|Le Z<|aB Z<|aM<|aP<|bB<|aG<|xF (i:=1) (Ds:=([]:vV)) (.inl Z) Z ?_;cases h;exact mK Z
 refine aT<|bP Z<|aB Z<|aM ?_;refine eF h Z (λh=>?_) λh=>?_
 .refine aT<|aK (aO.alloc (cs:=[vU (0:Int)]) Z Z) Z λv=>i_ 0 Z Z Z Z Z Z<|aM<|aI<|Vb (A:=Int) (B:=vV) (λd e=>⟨48,OF e⟩) (λd=>tG d=some r) (λd e=>[(9,vP v)]) (λd e=>[bU v [vU (d)] 46,QV e]) (λd e=>[Sl Re q p0,o]) ?_ ?_
  .refine aT<|aA Z<|IC (A:=Unit) (B:=Nat) (vs:=[vU (g)]) (λj=>tH U p0 g j=some r) (λj b=>Value.func (.func 180) #[] #[vP b]) (λj b=>[bU b [vU (g)] 46,bU v [vU (0:Int)] 46,k,QV ([]:vV)]) (λj b=>[Sl Re q p0,o]) (BB.fn (show aX prog 155 from call155) Z) func155 Z ntmps155 Z Z ?_ ?_
   .refine aT<|aK (aO.box (cs:=[vU (g)]) Z Z) Z λu=>aB Z<|aM<|aT<|aC (Kn (cs:=[.tmp 1]) (vs:=[vP u]) Z) Z<|aB Z<|aM<|aP ?_;exact uT () (u) h (.inl Z) (Kk.r1 Z (RV.tmp Z)) Z (aW.refl _) (aE.refl _ _)
   intro j b h;unfold tH at h;refine aM<|aU<|KL (i:=3) (cs:=[vP b]) ([]:vV) Z (show aX prog 180 from call180) Z func180 Z ntmps180 Z λn m E w=>let C:=Lp n E LoopState.ready none;aU<|eP (tI U p0) (λa s=>[(0,CO n),(1,vP b)]) (λa s=>[C,bU b [vU (a.1)] 46,bU v [vU (a.2)] 46,k,QV (List.cons m ([]:vV))]) (g,(0:Int)) () h SF (aW.refl _) ?_
   intro H a s h;refine aI<|aT<|bY 1 Z<|lK Z<|aM ?_;refine eF h Z (λh=>?_) λh=>?_
   .refine bK<|aI<|cC (λf=>pM a (bG (tI U p0) H) f=some r) (λf t=>[(0,CO n),(1,vP b)]) (λf t=>[C,bU b [vU (a.1)] 46,bU v [vU (f)] 46,k,QV (List.cons m ([]:vV))]) ?_ ?_
    .refine aU<|aT<|aA Z<|bY 1 Z<|dG h λp I h=>aK (zB8 WV (Cz U p I) Z (gK [1] Z)) Z λK=>SS (us:=[vI (p)]) (i:=0) w Z Z Z Z Z Z<|aL<|aB Z<|aM<|Wz (i:=0) Z<|aU<|aI ?_;refine xP [0,0,3,7,0,31,63] 5 mixedOrders ?_;refine iH 3 Z<|bE Z<|eX h λy h=>bI Z .nil (jP 0 Z) (a_ Z Z (cG Z) Z Z y) aR.z<|bI Z .nil (jP 0 Z) (eC Z (cG Z) Z Z Z ZJ y) aR.z<|iH 2 Z<|bS 5 Z Z<|Le Z<|bP Z<|aM ?_;refine eF h Z (λh=>?_) λh=>?_
     .refine xP [0,0,2,7,15] 3 mixedOrders ?_;refine iH 2 Z<|bE Z<|eX h λG h=>iD Z (afd Z Z G)<|bS 3 Z Z<|aC (aiJ Z Z) Z<|i_ 2 Z Z Z Z Z Z<|dK<|JO<|N_ (i:=0) Z<|aC (fF Z) Z<|aM<|Np Z<|cZ<|jZ ?_;exact cF (bOr .u32 a.2 (Tx .u32 (1:Int) p)) () h SF Z
     refine cZ<|JO<|N_ (i:=0) Z<|aC (fF Z) Z<|aM<|Np Z<|cZ<|jZ ?_;exact cF (a.2) () h SF Z
    intro f t h;unfold pM at h;refine aL<|bY 1 Z<|bY 1 Z<|aC (kT Z Z) Z<|Le Z<|i_ 1 Z Z Z Z Z Z<|aM ?_;exact Ac ((Fv .u32 a.1 (wI .u32 (a.1 - (1:Int)))),f) () h SF Z
   refine uS<|gY<|gY<|BC<|ZB (i:=0) (.inr Z) Z (Kk.r0 Z)<|jZ ?_;exact Nq (a.2) (List.cons m ([]:vV)) Z h SF (aW.ix [2,4] Z Z) (aE.refl _ _)
  intro d e h;unfold tG at h;refine aT<|bY 0 Z<|aB Z<|aM<|aP<|bB<|aG<|xF (i:=1) (Ds:=(e)) (.inl Z) Z ?_;cases h;exact mK Z
 refine aT<|bP Z<|aB Z<|aM ?_;refine eF h Z (λh=>?_) λh=>?_
 .refine aT<|aA Z<|aB Z<|aM<|aP<|bB<|aG<|xF (i:=1) (Ds:=([]:vV)) (.inl Z) Z ?_;cases h;exact mK Z
 refine cZ<|jZ<|aT<|aA Z<|aB Z<|aM<|aP<|xF (i:=1) (Ds:=([]:vV)) (.inl Z) Z ?_;cases h;exact mK Z
end Go.Proofs.YtemmagadjnlajaaGreatDoor
section
set_option maxRecDepth 100000
namespace Go.Gx
open Go Go.Sx Go.Proofs Go.Proofs.YtemmagadjnlajaaGreatDoor
noncomputable section
def ajd (a:V6 GV) (H:GH):OR:=a1 a λb=>ob (aar H b) λp0=>ob (mM 1000 p0) λr=>abr r H
def afn (a:V6 GV) (H:GH):OR:=a4 a λb c d e=>ob (aav H b) λp0=>ob (dSc .i64 c) λp1=>ob (dSc .u32 d) λp2=>ob (dSc .u32 e) λp3=>ob (BR 1000 p0 p1 p2 p3) λr=>abr r H
def afm (a:V6 GV) (H:GH):OR:=a4 a λb c d e=>ob (aav H b) λp0=>ob (dSc .i64 c) λp1=>ob (dSc .u32 d) λp2=>ob (dSc .u32 e) λp3=>ob (BS 1000 p0 p1 p2 p3) λr=>some (.int .u32 r,H)
def aho (f:Nat) (a:V6 GV) (H:GH):V1 (GV×GH):=bif Nat.beq f 78 then ajd a H else bif Nat.beq f 152 then afn a H else bif Nat.beq f 109 then afm a H else none
abbrev gl:Nat->FX:=glb 0 (cellsOf UW Jk)
def gp:GP:=⟨CV,41,aho,adZ 211⟩
section
variable {T:Nat} {w0:lJ (gl T)} {w:V2} {ρ:iP} {H H':GH} {g:GV} {us:V6 GV} {vs:V6 V0}
theorem aed (h:ajd us H=some (g,H')) (R:lP w0 ρ H w) (m:zX ρ us vs):sY prog w0 ρ 78 vs w g H':=by
 obtain⟨p,rfl,h⟩:=WF h;have⟨j,c,h⟩:=aH.1 h;have⟨r,l,h⟩:=aH.1 h;obtain⟨o,rfl,d⟩:=m.one;obtain⟨e,i,n,rfl,a,b⟩:=Yy R d c;obtain⟨rfl,rfl⟩:=ON h;exact Kv aac (Kd 1000 (p0:=j) e i n r l) R (List.forall_mem_cons.2 ⟨a,List.forall_mem_cons.2 ⟨b,λf k=>absurd k List.not_mem_nil⟩⟩) λρ=>.bool _
theorem aaT (h:afn us H=some (g,H')) (R:lP w0 ρ H w) (a:zX ρ us vs):sY prog w0 ρ 152 vs w g H':=by
 obtain⟨z,A,B,C,rfl,h⟩:=WG h;have⟨m,b,h⟩:=aH.1 h;have⟨n,c,h⟩:=aH.1 h;have⟨o,d,h⟩:=aH.1 h;have⟨p,e,h⟩:=aH.1 h;have⟨r,u,h⟩:=aH.1 h;obtain⟨q,vs,rfl,i,a⟩:=a.of_cons;obtain⟨v,vs,rfl,j,a⟩:=a.of_cons;obtain⟨x,vs,rfl,k,a⟩:=a.of_cons;obtain⟨y,rfl,l⟩:=a.one;have s:=TN R i b;obtain rfl:=Me j c;obtain rfl:=Me k d;obtain rfl:=Me l e;obtain⟨rfl,rfl⟩:=ON h;exact Kv adg (Ih 1000 (p0:=m) (p1:=n) (p2:=o) (p3:=p) q r u) R (List.forall_mem_cons.2 ⟨s,List.forall_mem_cons.2 ⟨R.glb,λf t=>absurd t List.not_mem_nil⟩⟩) λρ=>.bool _
theorem aaS (h:afm us H=some (g,H')) (R:lP w0 ρ H w) (a:zX ρ us vs):sY prog w0 ρ 109 vs w g H':=by
 obtain⟨z,A,B,C,rfl,h⟩:=WG h;have⟨m,b,h⟩:=aH.1 h;have⟨n,c,h⟩:=aH.1 h;have⟨o,d,h⟩:=aH.1 h;have⟨p,e,h⟩:=aH.1 h;have⟨r,u,h⟩:=aH.1 h;obtain⟨q,vs,rfl,i,a⟩:=a.of_cons;obtain⟨v,vs,rfl,j,a⟩:=a.of_cons;obtain⟨x,vs,rfl,k,a⟩:=a.of_cons;obtain⟨y,rfl,l⟩:=a.one;have s:=TN R i b;obtain rfl:=Me j c;obtain rfl:=Me k d;obtain rfl:=Me l e;cases h;exact Kv acO (Ii 1000 (p0:=m) (p1:=n) (p2:=o) (p3:=p) q r u) R (List.forall_mem_cons.2 ⟨s,List.forall_mem_cons.2 ⟨R.glb,λf t=>absurd t List.not_mem_nil⟩⟩) λρ=>.int _ _
theorem aea {f:Nat} (h:aho f us H=some (g,H')) (R:lP w0 ρ H w) (d:zX ρ us vs):sY prog w0 ρ f vs w g H':=by
 unfold aho at h;cases a:Nat.beq f 78 with
 |true=>rw[a]at h;rw[zA4 a];exact aed h R d
 |false=>
 rw[a]at h;cases b:Nat.beq f 152 with
 |true=>rw[b]at h;rw[zA4 b];exact aaT h R d
 |false=>
 rw[b]at h;cases c:Nat.beq f 109 with
 |true=>rw[c]at h;rw[zA4 c];exact aaS h R d
 |false=>
 rw[c]at h;cases h
end
theorem ahk:aiY prog CV=true:=by kernel_rfl
theorem NU:iR prog CV:=⟨Uw,ahj ahk⟩
theorem ahV {a:FX} (b:lJ a):xA prog b (Qr CV 90 f90):=aal NU mixedOrders func90 call90 (by kernel_rfl)
theorem ahb (a:Array V0) (w:V2) (c:a.size=2):CallsDIn (FR none) 0 prog 89 a .returning w λe f g=>∃v,e = .returned v/\f = .returning/\UN w g:=by
 have⟨d,h,b⟩:=abt (r:=JS CV (Qr CV 90 f90) (RA f89) (evC CV (Qr CV 90 f90) (λ_ _ _ _=>none) (aaf f89) 0 ⟨[],0,[]⟩ (Lj [])) (RA f89).tail ⟨[(adL f89,.inil)],H0⟩) (by kernel_rfl);exact Yt (ch:=Qr CV 90 f90) (lp:=λ_ _ _ _=>none) NU mixedOrders ahV MW func89 Z Z Z (by decide +kernel) (λi w=>by simp[execOp,resolve,invoke,builtin]) (by kernel_rfl) (by kernel_rfl) Z (by rw[c];decide +kernel) h b
theorem alg {i:FX} {a:FuncId->V6 GV->GH->V1 (GV×GH)} (o:∀(b:lJ i) {f us H g H'},a f us H=some (g,H')->∀c w d,lP b c H w->zX c us d->sY prog b c f d w g H') (b:lJ i):LF prog ⟨CV,41,a,adZ 211⟩ V_.fns b:=by
 refine⟨NU,mixedOrders,λh=>?_,o b,λh c w d H R n=>ad_ func211 Z Z Z Z h c w d H R n,λR l j k=>?_⟩
 .have⟨e,m,h⟩:=aH.1 (show ob (XL _) _=some _ from h);cases h;have⟨p,q,r⟩:=abB m;exact⟨p,q,Ue r⟩
 .exact agS (tb:=CV) (T1:=3) (T2:=35) (cc:=89) NU func41 call41 call89 Z Z Z (WH (by kernel_rfl)) (WH (by kernel_rfl)) (XQ Z Z) (XQ Z Z) (abe Z Z) (abe Z Z) ahb R l j k
theorem gok {T:Nat} (a:lJ (gl T)):LF prog gp V_.fns a:=alg (λa f d H g c h i w e R b=>aea h R b) a
end
end Go.Gx
end
namespace Go.Proofs.YtemmagadjnlajaaGreatDoor
open Go Go.Sx Go.Gx
set_option maxRecDepth 100000
def Gy (a:Nat):V1 V4:=some (true)
theorem Xc:aX prog 5:=call5
theorem adM:okT (aaj V_ gp 4000 5 [] H0)=true:=by kernel_rfl
theorem Jj (a:Nat) (r:V4) (h:Gy a=some r):
  aZ prog 5 #[] [Gb 0 (cellsOf UW Jk)] (λx:Unit=>Value.bool (r)) (λx l=>l) (λ_ l=>l):=by
 obtain rfl:=Option.some.inj h;have⟨d,c⟩:=abu adM;rw[aak aex]at c;exact RP ahp Xc (λf e h=>h.bool_inv) λT b=>aai (gs:=gl T) gok c (lP.start b Z) .nil
end Go.Proofs.YtemmagadjnlajaaGreatDoor
namespace Go.Proofs.YtemmagadjnlajaaGreatDoor
open Go.Sx
def lG (a:V4):V1 V4:=
 some (a)
def uI (b:Unit):V1 V4:=
 Option.bind (Gy U) λa=>(some (a))
def jE (b:Int) (a:(Int)->V1 V4) (c:V4):V1 V4:=
 if c=true then(some (false))else(a (wI .i64 (b+(1:Int))))
def fT (c:eY) (i:dB) (k:fE) (e a:Int) (f:bN×Int) (b:Int) (d:(Int)->V1 V4):V1 V4:=
 ck (0<=a/\a<(c.2.2.length:Int)) (if b<(((at' c.2.2 a).2.2).length:Int)then(ck (0<=a/\a<(c.2.2.length:Int)) (ck (0<=b/\b<(((at' c.2.2 a).2.2).length:Int)) (Option.bind (mU U ((at' ((at' c.2.2 a).2.2) b).2)) λg=>(Option.bind (mN U g.1 ((c.1,c.2.1,c.2.2)) ((i.1,i.2)) k e) λh=>(if g.2≠(0:Int)then(jE b d (true))else(if h.2.2≠(0:Int)then(jE b d (true))else(ck (0<=((at' ((at' c.2.2 a).2.2) b).1)/\((at' ((at' c.2.2 a).2.2) b).1)<(f.1.length:Int)) (Option.bind (xS U ((c.1,c.2.1,c.2.2)) ((i.1,i.2)) e ((at' ((at' c.2.2 a).2.2) b).1) h.1) λj=>(jE b d (decide ((at' f.1 ((at' ((at' c.2.2 a).2.2) b).1))≠j)))))))))))else(uI U (())))
def lH (e:eY) (f:dB) (g:fE) (c a:Int) (d:bN×Int) (b:V4):V1 V4:=
 if b=true then(some (false))else(bG (fT U e f g c a d) U (0:Int))
def lF (d:eY) (f:dB) (e:fE) (a c:Int) (g:V4):V1 V4:=
 if g=true then(some (false))else(Option.bind (Ep U ((d.1,d.2.1,d.2.2)) ((f.1,f.2)) e a) λb=>(if c<(0:Int)then(Option.bind (Gy U) λh=>(if h=true then(lG (decide (b.2=(11:Int))))else(lG (false))))else(if b.2≠(0:Int)then(lH U d f e a c b (true))else(ck (0<=a/\a<(e.length:Int)) (lH U d f e a c b (decide ((b.1.length:Int)≠((at' e a).length:Int))))))))
def jD (c:eY) (d:dB) (e:fE) (b a:Int):V1 V4:=
 Option.bind (Er U ((c.1,c.2.1,c.2.2)) ((d.1,d.2)) e b) λf=>(if f≠a then(lF U c d e b a (true))else(Option.bind (xW U ((c.1,c.2.1,c.2.2)) ((d.1,d.2)) e) λg=>(Option.bind (Eo U g b) λh=>(lF U c d e b a ((h != (decide ((0:Int)<=a))))))))
def jF (b:dJ) (a:dW->V1 V4) (c:Int):V1 V4:=
 a (c,(wI .i64 (b.2+(1:Int))))
def lI (a:dJ) (b:dW->V1 V4) (d:GG) (c:V4):V1 V4:=
 if c=true then(some (false))else(if d.1≠(0:Int)then(jF a b (a.2))else(jF a b (a.1)))
def gT (d:eY) (h:dB) (i:fE) (e:Int) (a:dJ) (b:dW->V1 V4) (g:V4):V1 V4:=
 if g=true then(ck (0<=a.2/\a.2<(d.2.2.length:Int)) (Option.bind (mU U ((at' d.2.2 a.2).2.1)) λf=>(Option.bind (mN U f.1 ((d.1,d.2.1,d.2.2)) ((h.1,h.2)) i e) λc=>(if f.2≠(0:Int)then(lI a b c (true))else(lI a b c (decide (c.2.2≠(0:Int))))))))else(jD U d h i e (a.1))
def cT (d:eY) (e:dB) (f:fE) (c:Int) (a:dJ) (b:dW->V1 V4):V1 V4:=
 if a.2<(d.2.2.length:Int)then(gT U d e f c a b (decide (a.1<(0:Int))))else(gT U d e f c a b (false))
def jJ (a:eY) (b:dB) (c:fE) (e:Int):V1 V4:=
 Option.bind (Bm U ((a.1,a.2.1,a.2.2)) ((b.1,b.2)) c (0:Int)) λf=>(if(!f)=true then(Option.bind (Gy U) λg=>(some (g)))else(Option.bind (HU U e (c.length:Int)) λd=>(bG (cT U a b c d) U ((-1:Int),(0:Int)))))
theorem Ey (U:Nat) {g:eY} {u:dB} {L:fE} {p3:Int} (y o A C:V0) (P:oB) (n:V0) (z6:nQ) (r:Bool) (h:jJ U g u L p3=some r):
  aZ prog 3 #[Value.agg #[vS (g.1),y,o],Value.agg #[A,C],n,vI (p3)] [Sl aN y g.2.1,Sl aJ o g.2.2,Sl cQ A u.1,S2 aS C P u.2,S2 cQ n z6 L,Gb 0 (cellsOf UW Jk)] (λx:Unit=>vB (r)) (λx l=>l) (λ_ l=>l):=by
 refine aZ.of func3 Z ntmps3 Z λc=>?_;refine aT<|aK (aO.box (cs:=[vS (g.1),y,o]) Z Z) Z λN=>let k:=bU N [vS (g.1),y,o] 25;aK (aO.box (cs:=[A,C]) Z Z) Z λO=>let m:=bU O [A,C] 29;aB Z<|aM<|aI<|aT<|fQ 1 Z<|fQ 0 Z<|aA Z<|dG h λr3 w4 h=>aK (zB8 aiP (Wk U y o A C P n z6 r3 w4) Z (gK [0,1,2,3,4] Z)) Z λx5=>aC (fF Z) Z<|aM ?_
 refine iA h Z (λ_ h=>?_) λ_ h=>?_
 .refine aT<|dG h λr7 w8 h=>aK (zB8 Xc (Jj U r7 w8) Z (gK [5] Z)) Z λx9=>aB Z<|aM<|aP<|aG ?_;cases h;exact mK Z
 refine bK<|aT<|aA Z<|aA Z<|aC (mB Z (Bl Z) Z) Z<|dG h λb a3 h=>let W:=(cT U g u L b);aK (zB8 aiQ (Wj U b a3) Z .nil) Z λbj=>aB Z<|aM<|aT<|aB Z<|aM<|aI<|cC (λd=>jD U g u L b d=some r) (λd af=>[(2,n),(3,vI (b)),(4,vP N),(5,vP O),(9,vI (d))]) (λd af=>[m,k]) ?_ ?_
 .refine aT<|aB Z<|aM<|aU<|eP W (λa al=>[(2,n),(3,vI (b)),(4,vP N),(5,vP O),(9,vI (a.1)),(10,vI (a.2))]) (λa al=>[m,k]) ((-1:Int),(0:Int)) () h SF (aW.refl _) ?_;intro ac a al h;refine aI<|aI<|cC (λG=>gT U g u L b a (bG W ac) G=some r) (λG am=>[(2,n),(3,vI (b)),(4,vP N),(5,vP O),(9,vI (a.1)),(10,vI (a.2)),(43,vB (G))]) (λG am=>[m,k]) ?_ ?_
  .refine aL<|aA Z<|bD Z<|bY 1 Z<|eL (iZ Z) Z<|cX Z<|aA Z ?_;refine mL h Z (λ_ h=>?_) λ_ h=>?_
   .refine bH Z<|aF Z (Hg Z Z) Z<|bO Z<|aM ?_;exact cF (decide (a.1<(0:Int))) () h SF Z
   refine aD Z<|aD Z<|bT Z<|aM ?_;exact cF (false) () h SF Z
  intro G am h;refine iA h Z (λ_ h=>?_) λ_ h=>?_
  .refine bK<|aI<|cC (λt=>jF a (bG W ac) t=some r) (λt an=>[(2,n),(3,vI (b)),(4,vP N),(5,vP O),(9,vI (t)),(10,vI (a.2))]) (λt an=>[m,k]) ?_ ?_
   .refine aU<|aT<|bD Z<|bY 1 Z<|aA Z<|eX h λV h=>aC (a_ Z Z (iZ Z) Z Z V) Z<|aC (cB Z Z Z Z Z) Z<|xE (v:=o) (ds:=g.2.2) dN (iZ Z) λq=>let ar:=Sl aS ((at' q a.2).1) ((at' g.2.2 a.2).2.1);?_
    refine jY (iQ ((yY (fR (f:=bJ) (iZ Z) V.1 V.2)):aQ _ _ (ar))) ?_;refine aC (sZ (gv:=λx=>x.1) Z (iZ Z) Z Z Z qB V) Z<|dG h λa2 bd h=>aK (zB8 afj (I_ U ((at' q a.2).1) a2 bd) Z (gK [0] Z)) Z λbg=>aA Z<|fL Z<|fL Z<|aB Z<|aB Z<|aM<|aT<|aA Z<|fQ 2 Z<|fQ 1 Z<|aA Z<|aA Z<|dG h λY ay h=>aK (zB8 afk (Ke U bg y o A C P n z6 Y ay) Z (aE.cons (bL (aQ.res 0 Z) dL) (gK [3,4,5,6,7] Z))) Z λbh=>aA Z<|fL Z<|fL Z<|fL Z<|aB Z<|aB Z<|aB Z<|aM<|aI<|aI<|xD (B:=Unit) (λi=>lI a (bG W ac) Y i=some r) (λi H=>[(2,n),(3,vI (b)),(4,vP N),(5,vP O),(9,vI (a.1)),(10,vI (a.2)),(13,vI (Y.1)),(71,vB (i))]) (λi H=>[m,k]) (λi H=>[ar,Rz eQ o q g.2.2,Pw bJ q g.2.2,Sl aN y g.2.1,Sl aJ o g.2.2,Sl cQ A u.1,S2 aS C P u.2,S2 cQ n z6 L,Gb 0 (cellsOf UW Jk)]) ?_ ?_
    .refine aL<|aA Z<|lK Z<|aA Z ?_;refine mL h Z (λ_ h=>?_) λ_ h=>?_
     .refine aD Z<|aD Z<|bO Z<|aM ?_;exact bQ (true) () h SF (aW.ix [1,2] Z Z) (aE.refl _ _)
     refine bH Z<|aF Z (xH Z Z) Z<|bT Z<|aM ?_;exact bQ (decide (Y.2.2≠(0:Int))) () h SF (aW.ix [1,2] Z Z) (aE.refl _ _)
    intro i H h;refine iA h Z (λ_ h=>?_) λ_ h=>?_
    .refine aT<|aB Z<|aM<|aP<|aG<|bB<|aG<|aG<|bB<|aG ?_;cases h;exact mK Z
    refine bK<|aT<|aA Z<|lK Z<|aM ?_;refine eF h Z (λh=>?_) λh=>?_
    .refine aL<|aA Z<|aB Z<|dK<|jZ ?_;exact bQ (a.2) () h SF (aW.refl _) (gK [3,4,5,6,7,8] Z)
    refine cZ<|jZ ?_;exact bQ (a.1) () h SF (aW.refl _) (gK [3,4,5,6,7,8] Z)
   intro t an h;unfold jF at h;refine aL<|aA Z<|cP Z<|aB Z<|aM ?_;exact Ac (t,(wI .i64 (a.2+(1:Int)))) () h SF Z
  refine fK ?_;exact cF (a.1) () h SF Z
 intro d af h;let w:=(at' g.2.2 d)
 refine aI<|aI<|cC (λD=>lF U g u L b d D=some r) (λD ag=>[(2,n),(3,vI (b)),(4,vP N),(5,vP O),(9,vI (d)),(92,vB (D))]) (λD ag=>[m,k]) ?_ ?_
 .refine aL<|fQ 1 Z<|fQ 0 Z<|aA Z<|aA Z<|dG h λa0 ba h=>aK (zB8 aiR (Us U y o A C P n z6 a0 ba) Z (gK [0,1,2,3,4] Z)) Z λbn=>aA Z<|lK Z<|aA Z ?_;refine mL h Z (λ_ h=>?_) λ_ h=>?_
  .refine aD Z<|aD Z<|aD Z<|aD Z<|aD Z<|aD Z<|aD Z<|aD Z<|aD Z<|bO Z<|aM ?_;exact cF (true) () h SF Z
  refine aF Z (iC 1 Z Z Z Z) Z<|aF Z (iC 0 Z Z Z Z) Z<|bH Z<|dG h λa1 bb h=>fU Z (zB8 agc (Pg U y o A C P n z6 a1 bb) Z (gK [0,1,2,3,4] Z)) Z λbo=>bH Z<|dG h λax bc h=>fU Z (zB8 agb (Uq U ax bc) Z .nil) Z λbp=>bH Z<|aF Z (lD Z Z) Z<|aF Z (ZU Z Z Z) Z<|bT Z<|aM ?_;exact cF ((ax != (decide ((0:Int)<=d)))) () h SF Z
 intro D ag h;refine iA h Z (λ_ h=>?_) λ_ h=>?_
 .refine aT<|aB Z<|aM<|aP<|aG ?_;cases h;exact mK Z
 refine bK<|aT<|fQ 1 Z<|fQ 0 Z<|aA Z<|aA Z<|dG h λp a4 h=>let av:=(fT U g u L b d p);aK (zB8 agd (Ur U y o A C P n z6 p a4) Z (gK [0,1,2,3,4] Z)) Z λaa=>let ae:=Ar cK aa p.1;aA Z<|fL Z<|fL Z<|aB Z<|aB Z<|aM<|aI<|aT<|aA Z<|cX Z<|aM ?_
 refine eF h Z (λh=>?_) λh=>?_
 .refine aI<|cC (λE=>lG E=some r) (λE ah=>[(8,vB (E))]) (λE ah=>[]) ?_ ?_
  .refine aL<|dG h λaH a5 h=>aK (zB8 Xc (Jj U aH a5) Z (gK [5] Z)) Z λbk=>aA Z ?_;refine iO (by exact rfl) (by exact rfl) (λI=>?_) (λI=>?_)
   .have h:=Bt I h;refine bH Z<|aF Z (oV Z Z) Z<|bO Z<|aB Z<|aM ?_;exact bQ (decide (p.2=(11:Int))) () h SF .nil (aE.refl _ _)
   have h:=w_ I h;refine aD Z<|aD Z<|bT Z<|aB Z<|aM ?_;exact bQ (false) () h SF .nil (aE.refl _ _)
  intro E ah h;unfold lG at h;refine aP<|aG ?_;cases h;exact gM Z
 refine bK<|aI<|aI<|cC (λF=>lH U g u L b d p F=some r) (λF ai=>[(2,n),(3,vI (b)),(4,vP N),(5,vP O),(9,vI (d)),(16,aa),(119,vB (F))]) (λF ai=>[ae,m,k]) ?_ ?_
 .refine aL<|aA Z<|lK Z<|aA Z ?_;refine mL h Z (λ_ h=>?_) λ_ h=>?_
  .refine aD Z<|aD Z<|aD Z<|aD Z<|aD Z<|aD Z<|aD Z<|aD Z<|bO Z<|aM ?_;exact cF (true) () h SF Z
  refine bH Z<|aF Z (dO Z (bL (aQ.res 0 Z) fH) Z) Z<|bH Z<|bH Z<|eX h λT h=>aF Z (fJ Z Z (Bl Z) Z Z T) Z<|aF Z (eI Z (Bl Z) Z Z T) Z<|aF Z (dO Z (zB9 (Bl Z) T.1 T.2) Z) Z<|aF Z (xH Z Z) Z<|bT Z<|aM ?_;exact cF (decide ((p.1.length:Int)≠((at' L b).length:Int))) () h SF Z
 intro F ai h;refine iA h Z (λ_ h=>?_) λ_ h=>?_
 .refine aT<|aB Z<|aM<|aP<|aG ?_;cases h;exact mK Z
 refine bK<|aI<|cC (λQ=>uI U Q=some r) (λQ aj=>[]) (λQ aj=>[]) ?_ ?_
 .refine aT<|aB Z<|aM<|aU<|eP av (λe ak=>[(2,n),(3,vI (b)),(4,vP N),(5,vP O),(9,vI (d)),(16,aa),(18,vI (e))]) (λe ak=>[ae,m,k]) (0:Int) () h SF (aW.refl _) ?_;intro az e ak h;let ad:=(at' (w.2.2) e)
  refine aI<|aT<|aA Z<|bD Z<|bY 2 Z<|aA Z<|eX h λR h=>aC (a_ Z Z (iZ Z) Z Z R) Z<|aC (cB Z Z Z Z Z) Z<|xE (v:=o) (ds:=g.2.2) dN (iZ Z) λM=>let X:=(at' M d);?_
  refine jY (iQ ((yZ (fR (f:=bJ) (iZ Z) R.1 R.2)):aQ _ _ (Sl dZ (X.2) (w.2.2)))) ?_;refine aC (sZ (gv:=λx=>x.2) Z (iZ Z) Z Z Z kD R) Z<|eL (cG Z) Z<|cX Z<|aM ?_;refine eF h Z (λh=>?_) λh=>?_
  .refine bK<|aI<|aU<|aT<|bD Z<|bY 2 Z<|aA Z<|eX h λap h=>aC (a_ Z Z (Bl Z) Z Z ap) Z<|aC (cB Z Z Z Z Z) Z<|aC (sZ (gv:=λx=>x.2) Z (iZ Z) Z Z Z kD ap) Z<|aA Z<|eX h λS h=>aC (a_ Z Z (cG Z) Z Z S) Z<|xE (v:=(X.2)) (ds:=(w.2.2)) nF (cG Z) λj=>let au:=Sl aS (at' j e) (ad.2);?_
   refine jY (iQ ((fR (f:=lT) (iZ Z) S.1 S.2):aQ _ _ (au))) ?_;refine aC (sS (cs:=[vI (ad.1),at' j e]) Z (iZ Z) Z Z Z Z S) Z<|aK (aO.alloc (cs:=[vI (0:Int),zU]) Z Z) Z λbi=>eH (Know.one ((cG Z))) λao=>cO 0 (vs:=[vI ((at' ((at' g.2.2 d).2.2) e).1),at' j e]) Z Z (cI Z (cI ao Z)) Z Z Z<|aM<|aT<|bD Z<|bY 0 Z<|dG h λaX a7 h=>aK (zB8 afj (I_ U (at' j e) aX a7) Z (gK [0] Z)) Z λbe=>aA Z<|fL Z<|fL Z<|aB Z<|aB Z<|aM<|aT<|aA Z<|fQ 4 Z<|fQ 3 Z<|aA Z<|aA Z<|dG h λaY a8 h=>aK (zB8 afk (Ke U be y o A C P n z6 aY a8) Z (aE.cons (bL (aQ.res 0 Z) dL) (gK [6,7,8,9,10] Z))) Z λbm=>aA Z<|fL Z<|fL Z<|fL Z<|aB Z<|aB Z<|aB Z<|aM<|aI<|xD (B:=Unit) (λs=>jE e (bG av az) s=some r) (λs ab=>[(2,n),(3,vI (b)),(4,vP N),(5,vP O),(9,vI (d)),(16,aa),(18,vI (e)),(176,vB (s))]) (λs ab=>[ae,m,k]) (λs ab=>[au,Rz Do (X.2) j (w.2.2),Pw lT j (w.2.2),Sl dZ (X.2) (w.2.2),Rz eQ o M g.2.2,Pw bJ M g.2.2,Sl aN y g.2.1,Sl aJ o g.2.2,Sl cQ A u.1,S2 aS C P u.2,S2 cQ n z6 L,Gb 0 (cellsOf UW Jk)]) ?_ ?_
   .refine xP [0,1,3,7,15,31,63,127,127,383,1023,2047,127,127,127,127,32895,127,258175,524287,1048575] 19 mixedOrders ?_;refine bE Z<|iD Z (xH Z Z)<|bE Z ?_;refine wE (by exact rfl) (by exact rfl) (by exact rfl) (λJ=>?_) (λJ=>?_)
    .have h:=Bt J h;refine bA Z Z Z Z<|bA Z Z Z Z<|iD Z (wR Z Z)<|bE Z<|bA Z Z Z Z<|bA Z Z Z Z<|bA Z Z Z Z<|bA Z Z Z Z<|bA Z Z Z Z<|bA Z Z Z Z<|bA Z Z Z Z<|bA Z Z Z Z<|bA Z Z Z Z<|bA Z Z Z Z<|bA Z Z Z Z<|bA Z Z Z Z<|bS 19 Z Z<|aD Z<|bO Z<|aM ?_;exact bQ (true) () h SF (aW.ix [2,3,4] Z Z) (aE.refl _ _)
    have h:=MP J h;refine dX Z .nil .nil (fN Z) aR.z<|dX Z .nil .nil (xH Z Z) aR.z<|iD Z (sG Z Z)<|bE Z ?_;refine wE (by exact rfl) (by exact rfl) (by exact rfl) (λK=>?_) (λK=>?_)
    .have h:=Bt K h;refine bA Z Z Z Z<|bA Z Z Z Z<|bA Z Z Z Z<|bA Z Z Z Z<|bA Z Z Z Z<|bA Z Z Z Z<|bA Z Z Z Z<|bA Z Z Z Z<|bA Z Z Z Z<|bA Z Z Z Z<|bA Z Z Z Z<|bA Z Z Z Z<|bS 19 Z Z<|aD Z<|bO Z<|aM ?_;exact bQ (true) () h SF (aW.ix [2,3,4] Z Z) (aE.refl _ _)
    have h:=MP K h;refine dX Z .nil .nil (fN Z) aR.z<|dX Z .nil .nil (bR Z Z Z Z Z) aR.z<|dX Z (aW.cons 1 Z .nil) .nil (bX 0 Z Z Z Z Z) aR.z<|eX h λaq h=>dX Z (aW.cons 2 Z .nil) .nil (a_ Z Z (bL (aQ.res 0 Z) fH) Z Z aq) aR.z<|dX Z (aW.cons 2 Z .nil) .nil (eC Z (bL (aQ.res 0 Z) fH) Z Z Z gC aq) aR.z<|dX Z (aW.cons 4 Z .nil) .nil (iC 0 Z Z Z Z) aR.z<|dX Z (aW.cons 3 Z .nil) .nil (iC 0 Z Z Z Z) aR.z<|dX Z .nil .nil (fN Z) aR.z<|dX Z .nil .nil (bR Z Z Z Z Z) aR.z<|dX Z (aW.cons 1 Z .nil) .nil (bX 0 Z Z Z Z Z) aR.z<|dX Z .nil .nil (fN Z) aR.z<|dG h λaw a9 h=>Fo Z Z Z Z (zB8 age (OZ U y o A C P aw a9) Z (gK [6,7,8,9] Z)) Z (λbf=>(y_ [([2],[]),([2],[]),([1],[])] Z)) λbf=>bS 19 Z Z<|aF Z (xH Z Z) Z<|bT Z<|aM ?_;exact bQ (decide ((at' p.1 (ad.1))≠aw)) () h SF (aW.ix [2,3,4] Z Z) (aE.refl _ _)
   intro s ab h;refine iA h Z (λ_ h=>?_) λ_ h=>?_
   .refine aT<|aB Z<|aM<|aP<|bB<|aG<|aG<|bB<|aG ?_;cases h;exact mK Z
   refine cZ<|jZ<|aL<|aA Z<|cP Z<|aB Z<|aM ?_;exact fI (wI .i64 (e+(1:Int))) () h SF (aW.refl _) (gK [6,7,8,9,10,11] Z)
  refine fK ?_;exact bQ () (()) h SF .nil (gK [3,4,5,6,7,8] Z)
 intro Q aj h;refine aT<|dG h λaV a6 h=>aK (zB8 Xc (Jj U aV a6) Z (gK [5] Z)) Z λbl=>aB Z<|aM<|aP ?_;cases h;exact gM Z
end Go.Proofs.YtemmagadjnlajaaGreatDoor
namespace Go.Proofs.YtemmagadjnlajaaGreatDoor
open Go Go.Sx
section
variable {p:PG} {g:GR} {c:V6 (V6 Int)} {v:Nat}
theorem GK.comp (h:GK p g c) (b:v<g.2.length) {e:V6 TM} (a:U_ p.2.1.length e):∃C k,mU 1000 e=some (C,0)/\mN 1000 C p g c (v:Int)=some (UP p g c v e,k,0):=
 adO h.graph h.valid h.vars h.conf b h.n1 h.n6 a
theorem aeG (h:GK p g c) (b:v<g.2.length) {i:Nat} (f:i<p.2.2.length):
  bG (fT 1000 p g c (v:Int) (i:Int) (VN p g c v i (kJ p i).length,0)) 1000 (0:Int)=some true:=by
 have d:=h.rules i f;have s:=d.len;have j:=h.conf.row v b;have q:=K_ (p:=p) (g:=g) (c:=c) (v:=v) (i:=i) (kJ p i).length;refine gW (step:=fT 1000 p g c (v:Int) (i:Int) (VN p g c v i (kJ p i).length,0)) (K:=some true) (kJ p i).length (λk=>(k:Int)) (λk l e=>?_) (λl=>?_) 1000 V7
 .have⟨C,n,m,o⟩:=h.comp b (d.val k e);have⟨t,u⟩:=d.var k e;obtain⟨x,r⟩:∃x:Nat,(at' (kJ p i) (k:Int)).1=(x:Int):=⟨(at' (kJ p i) (k:Int)).1.toNat,V7⟩
  have a:=abo h b f (kJ p i).length (zAf _) k e;unfold fT;rw[dM (show 0<=(i:Int)/\(i:Int)<(p.2.2.length:Int) by omega),if_pos (show(k:Int)<((kJ p i).length:Int) by omega),dM (show 0<=(i:Int)/\(i:Int)<(p.2.2.length:Int) by omega),dM (show 0<=(k:Int)/\(k:Int)<((kJ p i).length:Int) by omega)];refine(aY (show mU 1000 _=_ from m)).trans ?_;refine(aY (show mN 1000 C _ _ c (v:Int)=_ from o)).trans ?_;rw[if_neg (show¬((0:Int)≠0) by decide),if_neg (show¬((0:Int)≠0) by decide)];dsimp only;rw[r]at a ⊢;rw[dM (show 0<=(x:Int)/\(x:Int)<((VN p g c v i (kJ p i).length).length:Int) by omega)];refine(aY (show xS 1000 _ _ (v:Int) (x:Int) _=_ from agW h b V7 _)).trans ?_;unfold jE;rw[zA7]at a;rw[a,Q9,if_neg V8]
 .unfold fT;rw[dM (show 0<=(i:Int)/\(i:Int)<(p.2.2.length:Int) by omega),if_neg (show¬((kJ p i).length:Int)<((kJ p i).length:Int)from Int.lt_irrefl _)];rfl
theorem abO (h:GK p g c) (a:v<g.2.length) {r:Int} (b:HC p g c v r):jD 1000 p g c (v:Int) r=some true:=by
 have e:=h.len;have d:=h.conf.row v a;unfold jD;refine(aY (show Er 1000 _ _ c (v:Int)=_ from ajG h a b)).trans ?_;rw[if_neg (show¬(r≠r)from λq=>q Z)];refine(aY (show xW 1000 _ _ c=_ from abG h)).trans ?_;refine(aY (alk h a b)).trans ?_;rw[bne_self_eq_false];unfold lF;rw[if_neg Q2];refine(aY (show Ep 1000 _ _ c (v:Int)=_ from ajF h a b)).trans ?_;rcases b with⟨i,rfl,f,_,_⟩|⟨rfl,_⟩
 .have j:=K_ (p:=p) (g:=g) (c:=c) (v:=v) (i:=i) (kJ p i).length;rw[if_neg (show¬(i:Int)<0 by omega),if_neg (show¬(i:Int)<0 by omega),zA7];dsimp only;rw[if_neg (show¬((0:Int)≠0) by decide),Q6,zA6 V7];unfold lH;rw[if_neg Q2];exact aeG h a f
 .rw[if_pos (show(-1:Int)<0 by decide),if_pos (show(-1:Int)<0 by decide)];rfl
theorem aeF (h:GK p g c) (o:v<g.2.length):bG (cT 1000 p g c (v:Int)) 1000 ((-1:Int),(0:Int))=some true:=by
 have w:=h.r12;have j:∀a b,gT 1000 p g c (v:Int) a b false=jD 1000 p g c (v:Int) a.1:=λa b=>by
  unfold gT;rw[if_neg Q2]
 have l:∀(k:Nat) b,k<p.2.2.length->cT 1000 p g c (v:Int) ((-1:Int),(k:Int)) b=b ((if UP p g c v (GU p k)≠0 then(k:Int)else -1),((k+1:Nat):Int)):=λk b d=>by
  have⟨C,n,s,t⟩:=h.comp o (h.rules k d).guard;unfold cT;rw[if_pos (show(k:Int)<(p.2.2.length:Int) by omega),zAc (show(-1:Int)<0 by decide)];unfold gT;rw[if_pos Z,dM (show 0<=(k:Int)/\(k:Int)<(p.2.2.length:Int) by omega)];refine(aY (show mU 1000 _=_ from s)).trans ?_;refine(aY (show mN 1000 C _ _ c (v:Int)=_ from t)).trans ?_;rw[if_neg (show¬((0:Int)≠0) by decide)];unfold lI jF;dsimp only;rw[if_neg (show¬(decide ((0:Int)≠0)=true) by decide),Q9];split<;>rfl
 rcases Mm p g c v with⟨r,q⟩
 have f:=q;rcases q with⟨i,rfl,x,u,m⟩|⟨rfl,m⟩
 .refine gW (step:=cT 1000 p g c (v:Int)) (K:=some true) (i+1) (λk=>((if k<=i then(-1:Int)else(i:Int)),(k:Int))) (λk b d=>?_) (λb=>?_) 1000 V7
  .rw[Q8,l k b V7];by_cases e:k=i
   .subst e;rw[if_pos u,Q0]
   .rw[if_neg (by simp[m k V7]),Q8]
  .rw[Q0];unfold cT;dsimp only;rw[zA6 V7,j];split<;>exact abO h o f
 .refine gW (step:=cT 1000 p g c (v:Int)) (K:=some true) p.2.2.length (λk=>((-1:Int),(k:Int))) (λk b d=>?_) (λb=>?_) 1000 V7
  .rw[l k b d,if_neg (by simp[m k d])]
  .unfold cT;rw[if_neg (show¬(p.2.2.length:Int)<(p.2.2.length:Int)from Int.lt_irrefl _),j];exact abO h o f
theorem SC (h:GK p g c) (z:Int) (d:Bm 1000 p g c 0=some true):jJ 1000 p g c z=some true:=by
 have a:=h.graph.n24;have f:=h.graph.n1;have b:=h.len;obtain⟨r,e,s,rfl,i⟩:=ahI z (n:=c.length) V7 V7;unfold jJ;refine(aY (show Bm 1000 _ _ c 0=_ from d)).trans ?_;rw[if_neg Q2,aY e];exact aeF h V7
end
def ltR (r:RL):V4:=decide (r.1.size<=40)&&(decide (r.2.2.length<=10)&&(decide (r.2.1.length<=250)&&(List.range r.2.2.length).all λk=>decide ((at' r.2.2 (k:Int)).2.length<=250)))
def ltP (p:PG):V4:=decide (p.1.size<=40)&&(decide (p.2.1.length<=10)&&(decide (p.2.2.length<=16)&&((List.range p.2.1.length).all (λk=>decide ((at' p.2.1 (k:Int)).1.size<=40))&&(List.range p.2.2.length).all λk=>ltR (at' p.2.2 (k:Int)))))
theorem Xz {p:PG} (h:ltP p=true):Sml p:=by
 unfold ltP at h;simp only[zA5,zAa,zA2,zAg]at h;have⟨_,m,n,_,e⟩:=h;refine⟨V7,V7,λq f=>?_⟩
 obtain⟨k,c,rfl⟩:=List.getElem_of_mem f;have a:=e k c;rw[show at' p.2.2 (k:Int)=p.2.2[k] by have:=HL c;rw[zA1 c]at this;exact(Option.some.inj this).symm]at a;unfold ltR at a;simp only[zA5,zAa,zA2,zAg]at a;have⟨_,i,l,d⟩:=a;refine⟨V7,V7,λs g=>?_⟩
 obtain⟨j,b,rfl⟩:=List.getElem_of_mem g;have:=d j b;rw[show at' p.2.2[k].2.2 (j:Int)=p.2.2[k].2.2[j] by have:=HL b;rw[zA1 b]at this;exact(Option.some.inj this).symm]at this;omega
theorem ahz (p:PG):pZ 1000 p=some (ltP p):=by
 unfold pZ ltP;by_cases c:p.1.size<=40
 .by_cases d:p.2.1.length<=10
  .by_cases e:p.2.2.length<=16
   .rw[Q0,Q0,zA6 (show¬(16:Int)<(p.2.2.length:Int) by omega),zAc c,zAc d,zAc e,Bool.true_and,Bool.true_and,Bool.true_and];unfold jK;rw[if_neg Q2];have l:=iB (step:=pE 1000 p) (K:=pB 1000 p ()) (bad:=some false) p.2.1.length (λk=>decide ((at' p.2.1 (k:Int)).1.size<=40)) (λk=>(k:Int)) (λk a o=>by
     unfold pE;rw[Q8,Q6,Q9];by_cases q:(at' p.2.1 (k:Int)).1.size<=40
     .rw[Q0,if_pos (by simpa using q)]
     .rw[Q8,if_neg (by simpa using q)]) (λa=>by
     unfold pE;rw[Q0]) 1000 V7
    refine l.trans ?_;have m:=iB (step:=iK 1000 p) (K:=some true) (bad:=some false) p.2.2.length (λk=>ltR (at' p.2.2 (k:Int))) (λk=>(k:Int)) (λk a o=>by
     unfold iK;rw[Q8,Q6];generalize f:at' p.2.2 (k:Int)=r;unfold ltR;by_cases g:r.1.size<=40
     .by_cases h:r.2.2.length<=10
      .rw[Q0,Q0,zAc g,zAc h,Bool.true_and,Bool.true_and];unfold qP;rw[aY Z];unfold pC;by_cases i:r.2.1.length<=250
       .rw[zAc (show(r.2.1.length:Int)<=250 by omega),zAc i,if_neg Q2,Bool.true_and];have n:=iB (step:=pD 1000 p (k:Int) a) (K:=a ((k+1:Nat):Int)) (bad:=some false) r.2.2.length (λj=>decide ((at' r.2.2 (j:Int)).2.length<=250)) (λj=>(j:Int)) (λj b s=>by
         unfold pD qP;rw[f,Q8,Q6,aY Z,Q9];by_cases q:(at' r.2.2 (j:Int)).2.length<=250
         .rw[zAc (show((at' r.2.2 (j:Int)).2.length:Int)<=250 by omega),if_neg Q2,if_pos (by simpa using q)]
         .rw[zA6 (show¬((at' r.2.2 (j:Int)).2.length:Int)<=250 by omega),if_pos Q2,if_neg (by simpa using q)]) (λb=>by
         unfold pD sM;rw[f,Q0,Q9]) 1000 V7
        exact n
       .rw[zA6 (show¬(r.2.1.length:Int)<=250 by omega),zA6 i,if_pos Q2,Bool.false_and,if_neg Q2]
      .rw[Q0,Q8,zA6 h,Bool.false_and,Bool.and_false,if_neg Q2];rfl
     .rw[Q8,zA6 g,Bool.false_and,if_neg Q2];rfl) (λa=>by
     unfold iK sL;rw[Q0]) 1000 V7
    unfold pB;rw[show bG (iK 1000 p) 1000 (0:Int)=_ from m];cases (List.range p.2.1.length).all (λk=>decide ((at' p.2.1 (k:Int)).1.size<=40))<;>cases (List.range p.2.2.length).all (λk=>ltR (at' p.2.2 (k:Int)))<;>rfl
   .rw[Q0,Q0,zAc (show(16:Int)<(p.2.2.length:Int) by omega),zA6 e];simp[jK]
  .rw[Q0,Q8,zA6 d];simp[jK]
 .rw[Q8,zA6 c];simp[jK]
theorem aiV {g:GR} (h:KZ g):∃r,mW 1000 g=some r:=by
 have⟨_,l,_⟩:=h;have b:∀(d k a:Nat) (m:Int),k+d=g.2.length->d<a->∃r,bG (pS g) a (m,(k:Int))=some r:=by
  intro d
  induction d with
  |zero=>
   intro k a m e c;obtain⟨f,rfl⟩:∃f,a=f+1:=⟨a - 1,V7⟩
   refine⟨m,?_⟩
   show pS g _ _=_;unfold pS AS;dsimp only;rw[Q0]
  |succ d j=>
   intro k a m e c;obtain⟨f,rfl⟩:∃f,a=f+1:=⟨a - 1,V7⟩
   have⟨r,i⟩:=j (k+1) f (max m ((at' g.2 (k:Int)).length:Int)) V7 V7;refine⟨r,?_⟩
   show pS g _ _=_;unfold pS;dsimp only;rw[Q8,Q6,Q9];exact i
 exact b g.2.length 0 1000 1 V7 V7
theorem afC {p:PG} (h:Sml p):∃r,uY 1000 p=some r:=by
 have t:=h.r;have c:∀(k:Nat) (a:Int),k<p.2.2.length->∀i:dJ->V1 Int,∀(d j b:Nat) (e:Int),j+d=(at' p.2.2 (k:Int)).2.2.length->d<b->∃m,bG (sW p (a,(k:Int)) i) b (e,(j:Int))=i (m,((k+1:Nat):Int)):=by
  intro k a n i d;have x:=(h.g (at' p.2.2 (k:Int)) (LX n)).2.1
  induction d with
  |zero=>
   intro j b e u l;obtain⟨f,rfl⟩:∃f,b=f+1:=⟨b - 1,V7⟩
   refine⟨e,?_⟩
   show sW p _ _ _ _=_;unfold sW DT;dsimp only;rw[Q6,Q0,Q9]
  |succ d q=>
   intro j b e u l;obtain⟨f,rfl⟩:∃f,b=f+1:=⟨b - 1,V7⟩
   have⟨m,v⟩:=q (j+1) f (wI .i64 (e+(((at' ((at' p.2.2 (k:Int)).2.2) (j:Int)).2).length:Int))) V7 V7;refine⟨m,?_⟩
   show sW p _ _ _ _=_;unfold sW;dsimp only;rw[Q6,Q8,Q6,Q6,Q9];exact v
 have s:∀(d k b:Nat) (m:Int),k+d=p.2.2.length->d<b->∃r,bG (mQ 1000 p) b (m,(k:Int))=some r:=by
  intro d
  induction d with
  |zero=>
   intro k b m n l;obtain⟨f,rfl⟩:∃f,b=f+1:=⟨b - 1,V7⟩
   refine⟨m,?_⟩
   show mQ 1000 p _ _=_;unfold mQ DR;dsimp only;rw[Q0]
  |succ d q=>
   intro k b m n l;obtain⟨f,rfl⟩:∃f,b=f+1:=⟨b - 1,V7⟩
   have x:=(h.g (at' p.2.2 (k:Int)) (LX V7)).2.1;have⟨y,o⟩:=c k m V7 (bG (mQ 1000 p) f) _ 0 1000 (wI .i64 (m+(((at' p.2.2 (k:Int)).2.1).length:Int))) (zB3 _) V7;have⟨r,w⟩:=q (k+1) f y V7 V7;refine⟨r,?_⟩
   show mQ 1000 p _ _=_;unfold mQ;dsimp only;rw[Q8,Q6];exact o.trans w
 exact s p.2.2.length 0 1000 0 V7 V7
theorem ajs (p:PG) (g:GR):∃b,BW 1000 p g=some b/\(b=true->ltP p=true/\KZ g):=by
 unfold BW;rw[aY (show pZ 1000 _=_ from ahz p)];cases e:ltP p with
 |false=>
  refine⟨false,?_,λh=>by cases h⟩
  unfold wJ;rw[if_pos Q2,if_pos Z]
 | true =>
  rw[if_neg Q2];by_cases a:KZ g
  .rw[aY (show jH 1000 _=_ from(JW g).1 a)];have⟨d,c⟩:=aiV a;have⟨t,f⟩:=afC (Xz e);unfold wJ;rw[if_neg Q2,aY (show mW 1000 _=_ from c),aY (show uY 1000 _=_ from f)];exact⟨_,rfl,λ_=>⟨rfl,a⟩⟩
  .rw[aY (show jH 1000 _=_ from(JW g).2 a)];refine⟨false,?_,λh=>by cases h⟩
   unfold wJ;rw[if_pos Q2]
def ltC (c:fE):V4:=decide (c.length<=30)&&(List.range c.length).all λk=>decide ((at' c (k:Int)).length<=10)
theorem ahy (c:fE):uX 1000 c=some (ltC c):=by
 unfold uX ltC;by_cases h:c.length<=30
 .rw[Q0,zAc h,Bool.true_and];have e:=iB (step:=p_ c) (K:=some true) (bad:=some false) c.length (λk=>decide ((at' c (k:Int)).length<=10)) (λk=>(k:Int)) (λk a b=>by
   unfold p_;rw[Q8,Q6,Q9];by_cases q:(at' c (k:Int)).length<=10
   .rw[Q0,if_pos (by simpa using q)]
   .rw[Q8,if_neg (by simpa using q)]) (λa=>by
   unfold p_ tA;rw[Q0]) 1000 V7
  refine e.trans ?_;cases (List.range c.length).all (λk=>decide ((at' c (k:Int)).length<=10))<;>rfl
 .rw[Q8,zA6 h,Bool.false_and]
end Go.Proofs.YtemmagadjnlajaaGreatDoor