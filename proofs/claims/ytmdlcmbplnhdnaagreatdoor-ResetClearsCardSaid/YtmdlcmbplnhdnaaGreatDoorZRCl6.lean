/- Models and proofs. Conditions: none. -/
import Derived.Test.YtmdlcmbplnhdnaaGreatDoorZRCl5
import Derived.Test.YtmdlcmbplnhdnaaGreatDoorZRCl4
import Derived.Test.YtmdlcmbplnhdnaaGreatDoorZRCl2
set_option linter.unusedVariables false
set_option linter.unusedSimpArgs false
set_option maxHeartbeats 4000000
set_option maxRecDepth 20000
namespace Go.Gx
open Go Go.Sx Go.RowKit
mutual
def Gz (k:Nat):GV->GV
 | .ptr h o=> .ptr (k+h) o
 | .sl h o l s=> .sl (k+h) o l s
 | .map h=> .map (k+h)
 | .fn f a b=> .fn f (Vk k a) (Vk k b)
 | .agg cs=> .agg (Vk k cs)
 | .tup vs=> .tup (Vk k vs)
 | .int a b=> .int a b
 | .bool b=> .bool b
 | .str a b=> .str a b
 | .pnil=> .pnil
 | .snil=> .snil
 | .fnil=> .fnil
 | .inil=> .inil
 | .un=> .un
 | .bad=> .bad
 | .opn h=> .opn (k+h)
def Vk (k:Nat):List GV->List GV
 | []=>[]
 |v::r=>Gz k v::Vk k r
end
theorem Nq (k:Nat):∀(l:List GV) (i:Nat),(Vk k l)[i]? = (l[i]?).map (Gz k)
 | [],i=>rfl
 |v::r,0=>rfl
 |v::r,i+1=>by simpa [Vk]using Nq k r i
theorem Ew (k:Nat):∀(l:List GV),(Vk k l).length=l.length
 | []=>rfl
 |v::r=>by simp[Vk,Ew k r]
def Zc (k:Nat):GO->GO
 | .cells cs=> .cells (Vk k cs)
 | .mp es=> .mp (es.map λe=>(Gz k e.1,Gz k e.2))
def AQ (k:Nat) (l:Ld):Ld:={l with o:=Zc k l.o}
theorem Rl.shift {y e:dN} {k:Nat} (c:∀h l,y h=some l->e (k+h)=some (AQ k l)) {g:GV} {v:Value} (h:Rl y g v):Rl e (Gz k g) v:=by
 have d:∀{u:List GV} {j:fV},(∀(i:Nat) g v,u[i]? = some g->j[i]? = some v->Rl e (Gz k g) v)->∀(i:Nat) g v,(Vk k u)[i]? = some g->j[i]? = some v->Rl e g v:=by
  intro u j D i g v x E;rw[Nq]at x;obtain⟨z,A,rfl⟩:=Option.map_eq_some_iff.1 x;exact D i z v A E
 induction h with
 |int a n=>simp only[Gz];exact .int a n
 |bool b=>simp only[Gz];exact .bool b
 |str s=>simp only[Gz];exact .str s
 |ptr t h=>simp only[Gz];exact .ptr (l:=AQ k _) t (c _ _ h)
 |pnil=>simp only[Gz];exact .pnil
 |sl h C B=>simp only[Gz];exact .sl (l:=AQ k _) (c _ _ h) C B
 |snil=>simp only[Gz];exact .snil
 |map h=>simp only[Gz];exact .map (l:=AQ k _) (c _ _ h)
 |fn f m w o G q r=>simp only[Gz];exact .fn f (by rw[Ew];exact m) (d q) (by rw[Ew];exact o) (d r)
 |fnil=>simp only[Gz];exact .fnil
 |inil=>simp only[Gz];exact .inil
 |agg m w o p=>simp only[Gz];exact .agg (by rw[Ew];exact m) (d p) o
 |tup m w p=>simp only[Gz];exact .tup (by rw[Ew];exact m) (d p)
 |un=>simp only[Gz];exact .un
 |bad v=>simp only[Gz];exact .bad v
 |opn v h F=>simp only[Gz];exact .opn (l:=AQ k _) v (c _ _ h) F
abbrev OL:=List (Nat×Nat×GO)
def Vi:OL->Nat->Option (Nat×GO)
 | [],_=>none
 |x::r,h=>if h=x.1 then some x.2 else Vi r h
theorem Na {b:OL} {h:Nat} {p:Nat×GO} (a:Vi b h=some p):(h,p)∈b:=by
 induction b with
 |nil=>cases a
 |cons x r c=>
  simp only[Vi]at a;split at a
  ·rename_i e;cases a;subst e;exact List.mem_cons_self
  ·exact List.mem_cons_of_mem _ (c a)
noncomputable def Pq (k:Nat) (t:Tr (Nat×GO)):OL->Tr (Nat×GO)
 | []=>t
 |x::r=>(Pq k t r).set (some (k+x.2.1,Zc k x.2.2)) (k+x.1)
noncomputable def abe:OL->Tr (Nat×GO)
 | []=> .lf
 |x::r=>(abe r).set (some x.2) x.1
theorem DK:∀(a:OL) (h:Nat),(abe a).get h=Vi a h
 | [],h=>rfl
 |x::r,h=>by
  show((abe r).set (some x.2) x.1).get h=_;rw[rS];simp only[Vi];split
  ·rfl
  ·exact DK r h
theorem Kr (k:Nat) (t:Tr (Nat×GO)):∀(b:OL) (h:Nat),(Pq k t b).get h=if k<=h then(match Vi b (h - k)with|some p=>some (k+p.1,Zc k p.2)|none=>t.get h)else t.get h
 | [],h=>by simp[Pq,Vi]
 | x :: r, h => by
  show((Pq k t r).set (some (k+x.2.1,Zc k x.2.2)) (k+x.1)).get h=_;rw[rS,Kr k t r h];by_cases e:h=k+x.1
  ·subst e;rw[if_pos Z,if_pos (by omega)];simp[Vi]
  ·rw[if_neg e];by_cases a:k<=h
   ·rw[if_pos a,if_pos a];simp only[Vi];rw[if_neg (show¬h - k=x.1 by omega)]
   ·rw[if_neg a,if_neg a]
noncomputable def IT (n:Nat) (a:OL):GH:=⟨n,abe a⟩
noncomputable def GH.load (H:GH) (n:Nat) (a:OL):GH:=⟨H.n+n,Pq H.n H.t a⟩
section
variable {gs:yX} {w0:eK gs} {w w':World} {ρ ρ2:dN} {H:GH} {n:Nat} {os:OL}
theorem gO {H:GH} {h:Nat} {o:GO}:H.get h=some o↔∃v,H.t.get h=some (v,o):=by
 unfold GH.get;cases c:H.t.get h with
 |none=>simp[ob]
 |some p=>obtain⟨a,b⟩:=p;simp[ob]
theorem rO {H:GH} {h v:Nat}:H.ver h=some v↔∃o,H.t.get h=some (v,o):=by
 unfold GH.ver;cases c:H.t.get h with
 |none=>simp[ob]
 |some p=>obtain⟨a,b⟩:=p;simp[ob]
theorem fI.sub {d:GH} (R:fI w0 ρ H w) (z:d.n=H.n) (m:∀h p,d.t.get h=some p->H.t.get h=some p):fI w0 ρ d w:=by
 have g:∀h o,d.get h=some o->H.get h=some o:=λh o i=>by
  obtain⟨v,j⟩:=gO.1 i;exact gO.2 ⟨v,m _ _ j⟩
 refine⟨R.ext,λh o i=>R.live h o (g h o i),λh q o y l u e f=>R.inj h q o y l u (g _ _ e) (g _ _ f),λh r=>R.fresh h (by omega),λh r=>R.dense h (by omega),λh v l j s=> ?_,R.env⟩
 obtain⟨o,k⟩:=rO.1 j;obtain⟨x,a,b,c⟩:=R.vers h v l (rO.2 ⟨o,m _ _ k⟩) s;refine⟨x,a,b,?_⟩
 have e:=gO.2 ⟨v,k⟩;have f:=g _ _ e;rw[c]at f;cases f;exact e
theorem xO.shift {l:Ld} {o:GO} {f:dN} {k:Nat} (d:∀h l,ρ2 h=some l->f (k+h)=some (AQ k l)) (h:xO ρ2 w l o):xO f w (AQ k l) (Zc k o):=by
 cases o with
 |cells z=>
  obtain⟨j,T,r,s,t,y⟩:=h;refine⟨j,T,r,s,by rw[Ew];exact t,λi g e=> ?_⟩
  rw[Nq]at e;obtain⟨p,q,rfl⟩:=Option.map_eq_some_iff.1 e;obtain⟨v,a,b,c⟩:=y i p q;exact⟨v,a,b.shift d,c⟩
 |mp A=>
  obtain⟨x,u,r,s,t⟩:=h;refine⟨x,u,r,by simpa [Zc]using s,λi g e=> ?_⟩
  rw[List.getElem?_map]at e;obtain⟨p,q,rfl⟩:=Option.map_eq_some_iff.1 e;obtain⟨m,a,b,c⟩:=t i p q;exact⟨m,a,b.shift d,c.shift d⟩
theorem fI.join {Y:yX} {hb:HP Y w λ_=>False} (R:fI w0 ρ H w) (M:fI (eK.of w hb) ρ2 (IT n os) w'):
  ∃s:dN,ρ.le s∧fI w0 s (H.load n os) w'∧∀g v,Rl ρ2 g v->Rl s (Gz H.n g) v:=by
 let s:dN:=λh=>if h<H.n then ρ h else(ρ2 (h - H.n)).map (AQ H.n);have G:ρ.le s:=λh l f=>by
  have ac:h<H.n:=by
   rcases Nat.lt_or_ge h H.n with q|q
   ·exact q
   ·rw[R.fresh h q]at f;cases f
  show(if h<H.n then ρ h else _)=_;rw[if_pos ac];exact f
 have K:∀h l,ρ2 h=some l->s (H.n+h)=some (AQ H.n l):=λh l f=>by
  show(if H.n+h<H.n then _ else _)=_;rw[if_neg (by omega),show H.n+h - H.n=h by omega,f];rfl
 have k:∀h,h<H.n->s h=ρ h:=λh u=>by show(if h<H.n then ρ h else _)=_;rw[if_pos u]
 have d:∀h,H.n<=h->s h=(ρ2 (h - H.n)).map (AQ H.n):=λh u=>by show(if h<H.n then ρ h else _)=_;rw[if_neg (by omega)]
 have J:∀h,H.n<=h->H.t.get h=none:=λh u=>by
  cases y:H.t.get h with
  |none=>rfl
  |some p=>exact absurd (R.lt (gO.2 ⟨p.1,y⟩)) (by omega)
 have X:∀h,h<H.n->(H.load n os).t.get h=H.t.get h:=λh u=>by
  show(Pq H.n H.t os).get h=_;rw[Kr,if_neg (by omega)]
 have gh:∀h p,H.n<=h->(H.load n os).t.get h=some p->∃x,(IT n os).t.get (h - H.n)=some x∧p=(H.n+x.1,Zc H.n x.2):=λh p u hp=>by
  have A:(Pq H.n H.t os).get h=some p:=hp;rw[Kr,if_pos u,J h u]at A;cases hk:Vi os (h - H.n)with
  |none=>rw[hk]at A;cases A
  |some x=>rw[hk]at A;cases A;exact⟨x,(DK os _).trans hk,rfl⟩
 have W:Mk w w':=M.ext.ext;have L:∀l:Ld,(eK.of w hb).mine l.b->w.heap.size<=l.b:=λl h=>by
  rcases h with h|h
  ·exact h
  ·exact h.elim
 have r:∀h o,h<H.n->(H.load n os).get h=some o->∃l,ρ h=some l∧w0.mine l.b∧xO ρ w l o∧H.get h=some o:=λh o u y=>by
  obtain⟨v,N⟩:=gO.1 y;rw[X h u]at N;have z:=gO.2 ⟨v,N⟩;obtain⟨l,a,b,c⟩:=R.live h o z;exact⟨l,a,b,c,z⟩
 have m:∀h o,H.n<=h->(H.load n os).get h=some o->∃l O,ρ2 (h - H.n)=some l∧w.heap.size<=l.b∧xO ρ2 w' l O∧o=Zc H.n O∧(IT n os).get (h - H.n)=some O:=λh o u y=>by
  obtain⟨v,N⟩:=gO.1 y;obtain⟨x,E,e⟩:=gh h _ u N;cases e;have z:(IT n os).get (h - H.n)=some x.2:=gO.2 ⟨x.1,E⟩;obtain⟨l,a,b,c⟩:=M.live _ _ z;exact⟨l,x.2,a,L l b,c,rfl,z⟩
 refine⟨s,G,⟨R.ext.trans W,λh o y=> ?_,λh B o U l l' V E f j F=> ?_,λh u=> ?_,λh u=> ?_,λh v l N f=> ?_,λi v e=>let ⟨l,a,b⟩:=R.env i v e;⟨l,G _ _ a,b⟩⟩,λg v y=>y.shift K⟩
 ·rcases Nat.lt_or_ge h H.n with q|q
  ·obtain⟨l,a,b,c,_⟩:=r h o q y;exact⟨l,by rw[k h q];exact a,b,c.move G (W.block _ c.lt)⟩
  ·obtain⟨l,O,a,b,c,rfl,_⟩:=m h o q y;exact⟨AQ H.n l,by rw[d h q,a];rfl,.inl (Nat.le_trans R.ext.size b),c.shift K⟩
 ·rcases Nat.lt_or_ge h H.n with q|q<;>rcases Nat.lt_or_ge B H.n with I|I
  ·obtain⟨l1,C,_,_,P⟩:=r h o q V;obtain⟨T,D,_,_,Q⟩:=r B U I E;rw[k h q,C]at f;rw[k B I,D]at j;cases f;cases j;exact R.inj h B o U _ _ P Q C D F
  ·obtain⟨l1,C,_,c1,P⟩:=r h o q V;obtain⟨T,O,D,b2,_,rfl,Q⟩:=m B U I E;rw[k h q,C]at f;rw[d B I,D]at j;cases f;cases j;have:=c1.lt;simp only[AQ]at F;omega
  ·obtain⟨l1,o1,C,b1,_,rfl,P⟩:=m h o q V;obtain⟨T,D,_,c2,Q⟩:=r B U I E;rw[d h q,C]at f;rw[k B I,D]at j;cases f;cases j;have:=c2.lt;simp only[AQ]at F;omega
  ·obtain⟨l1,o1,C,b1,_,rfl,P⟩:=m h o q V;obtain⟨T,O,D,b2,_,rfl,Q⟩:=m B U I E;rw[d h q,C]at f;rw[d B I,D]at j;cases f;cases j;have:=M.inj _ _ _ _ _ _ P Q C D F;omega
 ·have aa:H.n+n<=h:=u;rw[d h (by omega),M.fresh (h - H.n) (by show n<=_;omega)];rfl
 ·have aa:h<H.n+n:=u;rcases Nat.lt_or_ge h H.n with q|q
  ·obtain⟨l,f⟩:=R.dense h q;exact⟨l,by rw[k h q];exact f⟩
  ·obtain⟨l,f⟩:=M.dense (h - H.n) (by show _<n;omega);exact⟨AQ H.n l,by rw[d h q,f];rfl⟩
 ·obtain⟨o,S⟩:=rO.1 N;rcases Nat.lt_or_ge h H.n with q|q
  ·rw[X h q]at S;rw[k h q]at f;obtain⟨lv,a,b,c⟩:=R.vers h v l (rO.2 ⟨o,S⟩) f;have y:=gO.2 ⟨v,S⟩;obtain⟨l',j,_,ck⟩:=R.live h o y;rw[f]at j;cases j;refine⟨lv,G _ _ a,by rw[W.block _ ck.lt];exact b,?_⟩
   obtain⟨v2,ad⟩:=gO.1 c;exact gO.2 ⟨v2,by rw[X h q];exact ad⟩
  ·obtain⟨x,E,e⟩:=gh h _ q S;cases e;rw[d h q]at f;obtain⟨T,ab,rfl⟩:=Option.map_eq_some_iff.1 f;obtain⟨lv,a,b,c⟩:=M.vers (h - H.n) x.1 T (rO.2 ⟨x.2,E⟩) ab;refine⟨AQ H.n lv,K _ _ a,b,?_⟩
   have h3:(IT n os).get (h - H.n)=some x.2:=gO.2 ⟨x.1,E⟩;rw[c]at h3;have h4:=Option.some.inj h3;exact gO.2 ⟨_,by rw[S,<-h4];rfl⟩
end
theorem WR {a b:Nat×Nat} (h:Qp a b=true):a=b:=by
 obtain⟨f,d⟩:=a;obtain⟨g,e⟩:=b;unfold Qp at h;cases c:Nat.beq d e with
 |false=>simp[c]at h
 |true=>
  simp only[c,cond_true]at h;rw[Nat.eq_of_beq_eq_true h,Nat.eq_of_beq_eq_true c]
theorem RP {c:dN} {n l:Nat} {x:ByteArray} (a:n=lQ (bI x)) (b:l=(bI x).length):Rl c (.str n l) (.string x):=by
 rw[a,b];exact .str x
def isS (a:List GV) (p:Nat×Nat):Bool:=List.casesOn (motive:=λ_=>Bool) a false λu r=>List.casesOn (motive:=λ_=>Bool) r (Option.casesOn (motive:=λ_=>Bool) (GV.asStr u) false λs=>Qp s p) λ_ _=>false
theorem Xv {b:List GV} {p:Nat×Nat} (h:isS b p=true):b=[.str p.1 p.2]:=by
 cases b with
 |nil=>cases h
 | cons u r =>
  cases r with
  |cons _ _=>cases h
  | nil =>
   cases a:GV.asStr u with
   |none=>simp[isS,a]at h
   |some s=>
    have:Qp s p=true:=by simpa [isS,a]using h
    rw[pG a,WR this]
noncomputable section
def Yc (H:GH) (a:List Nat):Option OL:=List.rec (motive:=λ_=>Option OL) (some []) (λh _ b=>ob (H.t.get h) λp=>ob b λr=>some ((h,p.1,p.2)::r)) a
theorem Hw {H:GH}:∀{c:List Nat} {b:OL},Yc H c=some b->∀x∈b,H.t.get x.1=some x.2
 | [],b,h,x,a=>by cases h;cases a
 |h0::c,b,h,x,a=>by
  obtain⟨p,d,h⟩:=aC.1 (show ob (H.t.get h0) (λp=>ob (Yc H c) λr=>some ((h0,p.1,p.2)::r))=some b from h);obtain⟨r,e,h⟩:=aC.1 h;cases h;rcases List.mem_cons.1 a with rfl|a
  ·exact d
  ·exact Hw e x a
def Tg (T:FS) (G:GP) (a f:Nat) (d:List GV) (b:List Nat):Option (GV×Nat×OL):=ob (JB T G a f d H0) λr=>ob (Yc r.2 b) λc=>some (r.1,r.2.n,c)
def shK {R:Type} (k:Nat) (v:GV) (f:GV->R):R:=GV.casesOn (motive_1:=λ_=>R) v (λa b=>f (.int a b)) (λb=>f (.bool b)) (λa b=>f (.str a b)) (λh o=>sn (Nat.add k h) λh=>f (.ptr h o)) (f .pnil) (λh o l s=>sn (Nat.add k h) λh=>f (.sl h o l s)) (f .snil) (λh=>sn (Nat.add k h) λh=>f (.map h)) (λa b c=>f (Gz k (.fn a b c))) (f .fnil) (f .inil) (λd=>f (Gz k (.agg d))) (λe=>f (Gz k (.tup e))) (f .un) (f .bad) (λh=>sn (Nat.add k h) λh=>f (.opn h))
theorem Yq {R:Type} (k:Nat) (v:GV) (f:GV->R):shK k v f=f (Gz k v):=by
 cases v<;>simp[shK,vT,Gz]
def aej {R:Type} (k:Nat) (l:List GV):(List GV->R)->R:=List.rec (motive:=λ_=>(List GV->R)->R) (λf=>f []) (λx _ a f=>shK k x λy=>a λr=>f (y::r)) l
theorem TD {R:Type} (k:Nat):∀(l:List GV) (f:List GV->R),aej k l f=f (Vk k l)
 | [],f=>rfl
 |x::l,f=>by
  show shK k x (λy=>aej k l λr=>f (y::r))=_;rw[Yq,TD k l];rfl
def aek {R:Type} (k:Nat) (o:GO) (f:GO->R):R:=GO.casesOn (motive:=λ_=>R) o (λa=>aej k a λa=>f (.cells a)) (λb=>f (Zc k (.mp b)))
theorem abl {R:Type} (k:Nat) (o:GO) (f:GO->R):aek k o f=f (Zc k o):=by
 cases o with
 |cells a=>exact TD k a _
 |mp b=>rfl
def adY {R:Type} (k:Nat) (t:Tr (Nat×GO)) (b:OL):(Tr (Nat×GO)->R)->R:=List.rec (motive:=λ_=>(Tr (Nat×GO)->R)->R) (λf=>f t) (λx _ a f=>a λt=>sn (Nat.add k x.2.1) λv=>sn (Nat.add k x.1) λh=>aek k x.2.2 λo=>t.setK (some (v,o)) h f) b
theorem Tq {R:Type} (k:Nat) (t:Tr (Nat×GO)):∀(a:OL) (f:Tr (Nat×GO)->R),adY k t a f=f (Pq k t a)
 | [],f=>rfl
 |x::a,f=>by
  show adY k t a (λt=>sn (Nat.add k x.2.1) λv=>sn (Nat.add k x.1) λh=>aek k x.2.2 λo=>t.setK (some (v,o)) h f)=_;rw[Tq k t a];simp only[vT,abl,Cc];rfl
def OX (g:GV) (n:Nat) (a:OL) (H:GH):Option (GV×GH):=sn H.n λk=>shK k g λg=>adY k H.t a λt=>sn (Nat.add k n) λm=>some (g,⟨m,t⟩)
theorem XN (g:GV) (n:Nat) (a:OL) (H:GH):OX g n a H=some (Gz H.n g,H.load n a):=by
 unfold OX;simp only[vT,Yq,Tq];rfl
theorem Ti {P:Program} {T:FS} {G:GP} {gs gs2:yX} (j:gs2.obs=gs.obs) (d:gs2.env=[]) (M:Jp T G.tab) (L:∀m:eK gs2,TT P G T.fns m) {a f n:Nat} {y:List GV} {z:List Value} {O:List Nat} {g:GV} {c:OL} (i:Tg T G a f y O=some (g,n,c)) (C:aW P f)
  {m:eK gs} {w:World} {F:dN} {H o:GH} {B:GV} (Q:oQ (λ_=>none) y z) (h:OX g n c H=some (B,o)) (R:fI m F H w):kE P m F f z w B o:=by
 rw[XN]at h;cases h;obtain⟨r,D,i⟩:=aC.1 (show ob (JB T G a f y H0) _=some (g,n,c)from i);obtain⟨S,s,i⟩:=aC.1 i;cases i;rw[FZ M]at D;have b:HP gs2 w λ_=>False:=λp t=>⟨(R.glo p (j▸t)).1,id⟩
 rcases FY L (H':=r.2) (g:=r.1) D (fI.start (eK.of w b) d) Q with⟨v,E,l,k,_⟩|⟨_,N⟩
 ·have:=C z.toArray w;rw[show(eK.of w b).w=w from rfl,this]at k;cases k
 ·refine .inr ⟨C _ w,N.mono ?_⟩;rintro e E ⟨v,A,rfl,_,I,u⟩;have J:fI (eK.of w b) A (IT r.2.n c) E:=I.sub Z λh p t=>by
   have:Vi c h=some p:=(DK c h).symm.trans t;exact Hw s _ (Na this)
  obtain⟨l,q,K,x⟩:=R.join J;exact⟨v,l,rfl,q,K,x _ _ u⟩
theorem UL {P:Program} {T:FS} {G:GP} {gs:yX} (y:Jp T G.tab) (x:∀H:eK gs,TT P G T.fns H) {a f n:Nat} {m:List GV} {o:List Value} {D:List Nat} {g:GV} {j:OL} (d:Tg T G a f m D=some (g,n,j)) (z:aW P f)
  (E:oQ (λ_=>none) m o) (B:gs.env=[]) (b:eK gs):Calls P f o.toArray b.w λe q=>∃v c,e = .returned v∧fI b c (IT n j) q∧Rl c g v:=by
 obtain⟨r,t,d⟩:=aC.1 (show ob (JB T G a f m H0) _=some (g,n,j)from d);obtain⟨F,k,d⟩:=aC.1 d;cases d;rw[FZ y]at t;rcases FY x (H':=r.2) (g:=r.1) t (fI.start b B) E with⟨v,q,c,i,_⟩|⟨_,A⟩
 ·have:=z o.toArray b.w;rw[this]at i;cases i
 ·refine A.mono ?_;rintro e q ⟨v,s,rfl,_,u,l⟩;exact⟨v,s,rfl,u.sub Z λh p C=>by
   have:Vi j h=some p:=(DK j h).symm.trans C;exact Hw k _ (Na this),l⟩
end
theorem Ry {P:Program} {gs:Nat->yX} {L:List aZ} (D:∀w S,(∀h∈L,h.p w S)->∃T,HP (gs T) w λ_=>False) {f n:Nat} {z:List Value} {g:GV} {y:OL}
  (h:∀T (b:eK (gs T)),Calls P f z.toArray b.w λe s=>∃v c,e = .returned v∧fI b c (IT n y) s∧Rl c g v) {A:Type} {o:A->Value} {LO:A->List aZ}
  (d:∀T (b:eK (gs T)) (B:dN) (w:World) (V:Value),(∀k,b.mine k->b.w.heap.size<=k)->fI b B (IT n y) w->Rl B g V->∃x:A,V=o x∧∀q∈LO x,q.p w (λk=>b.w.heap.size<=k)):
  aX P f z.toArray L o (λ_ l=>l) (λx l=>LO x++l):=by
 intro t C H;obtain⟨T,u⟩:=D t C H;refine(h T (.of t u)).mono ?_;rintro e s ⟨v,c,rfl,R,G⟩;obtain⟨x,rfl,F⟩:=d T (.of t u) c s v (λk r=>r.elim id False.elim) R G;refine⟨x,rfl,R.ext,λ_ _=>False,⟨λi m E=>by simp at E,λi k h=>h.elim,λi j k h=>h.elim⟩,λq a=> ?_⟩
 have a:q∈LO x++[]:=a;rw[List.append_nil]at a;exact aZ.wide (F q a) (λk r=>⟨.inr (.inl r),λi h=>h.elim⟩)
noncomputable def Ik (s:ByteArray):Nat×Nat:=(lQ (bI s),(bI s).length)
theorem OI {a b:ByteArray} (h:Ik a=Ik b):a=b:=by
 have c:=WQ a b;unfold Ik at h;rw[h]at c;have e:Qp (lQ (bI b),(bI b).length) (lQ (bI b),(bI b).length)=true:=by simp[Qp]
 rw[e]at c;have d:a.toList=b.toList:=eq_of_beq c.symm;rw[Lib.toList_data,Lib.toList_data]at d;obtain⟨⟨x⟩⟩:=a;obtain⟨⟨y⟩⟩:=b;simp only at d;rw[d]
noncomputable def adp (a:List GV):Option (Nat×Nat):=List.casesOn (motive:=λ_=>Option (Nat×Nat)) a none λc r=>List.casesOn (motive:=λ_=>Option (Nat×Nat)) r c.asStr λ_ _=>none
abbrev aec:eI ByteArray:=⟨1,Nat.one_pos,λ_ _ a x=>a=[.string x],λh=>by simp[h],λh _=>h⟩
theorem h_.str {S:Nat->Prop} {g:dN} {w:World}:h_ S g w adp aec Ik:=λgs f y a h _=>by
 cases gs with
 |nil=>cases h
 |cons c gs=>
 cases gs with
 |cons _ _=>cases h
 |nil=>
 have h:c.asStr=some y:=h;obtain⟨v,f,rfl,b,a⟩:=a.of_cons;rw[a.of_nil];rw[pG h]at b;obtain⟨x,rfl,d,e⟩:=b.str_inv;exact⟨x,by unfold Ik;rw[<-d,<-e],rfl⟩
theorem abo {c:dN} {V:Value} {n l:Nat} {s:ByteArray} (h:Rl c (.str n l) V) (e:Ik s=(n,l)):V = .string s:=by
 obtain⟨x,rfl,a,b⟩:=h.str_inv;have:Ik x=Ik s:=by rw[e];unfold Ik;rw[<-a,<-b]
 rw[OI this]
theorem J_ {c:Type}:∀a b:c,id a=id b->a=b:=λ_ _ h=>h
theorem DD {c d e i:Type} {f:c->e} {g:d->i} (j:∀a b,f a=f b->a=b) (k:∀a b,g a=g b->a=b):∀a b:c×d,(λz:c×d=>(f z.1,g z.2)) a=(λz:c×d=>(f z.1,g z.2)) b->a=b:=λa b h=>by
 obtain⟨l,m⟩:=a;obtain⟨n,o⟩:=b;simp only[Prod.mk.injEq]at h;rw[j _ _ h.1,k _ _ h.2]
theorem Kd {g i:Type} {f:g->i} (e:∀a b,f a=f b->a=b):∀{c d:List g},c.map f=d.map f->c=d
 | [],[],_=>rfl
 | [],_::_,h=>by simp at h
 |_::_,[],h=>by simp at h
 |a::c,b::d,h=>by
  simp only[List.map_cons,List.cons.injEq]at h;rw[e _ _ h.1,Kd e h.2]
end Go.Gx
section
set_option maxRecDepth 100000
namespace Go.Gx
open Go Go.Sx Go.Proofs Go.Proofs.YtmdlcmbplnhdnaaGreatDoor
def zQ (l:pX):List GV:=l.map λn=> .int .i64 (.ofNat n)
abbrev UD:Nat:=62612022078668281795505554093363622559854195865949253215105900396045672359969877880166549174032343132993734957765569202214538907514566311350427701009544032694847337705793280154083690688451269616688782133795410379376928705130345296445151552924450334836917827234573469831105668184247309683323748037249326305257450566500613104582596739355858495108587194514699348039550352061107652063950585699432193800786308390540153052463342825471615451497403378237530695269756800903089344746135921082798862585170912282432061314226997690214573863871773160495090950365393003392302336199511227963345777762340303723847551010267882950244475187531638497589816884840746003832656122559568072415127281877587919955134951848720898362784721630179183632514071187737718801766045181382178059597531935953865739058317213402067112106178269539818406468794623567714368406699984352401615611648009540554670638379077003046691601651659503488023036016650041344236444492625067110609540290467946795853434537583557082408411183186533670519462632865144031819183310381452310956185194634675703732849182713820334837695243446565596654286740386031565011357996399800921820918955437335624617843094112596863701508946442457135114386851122925397296113071978999231011209672540734656076492347048890983156526043032785285927167596865683405763291449118335047510792439178363711784660496025932951555546329846668545661249500619781993860494368395467151808107769959479474456951167188694307489519361853029722953071634727739222067984252267479508130870821814111526873691367656719627636282162632229619012164283959600299915921951610829461135327475232013270964287406921117221047932843602716792612622967992944
def mu0:List GV:=[.str UD 679]
def mg0:GV:=(.tup [(.sl 2567 0 301 4),(.int .i64 (.ofNat 0)),(.int .i64 (.ofNat 0))])
def mo0:OL:=[(2567,2567,.cells (zQ [1,0,7,0,1,8,13,0,3,13,14,0,1,15,18,0,1,19,20,0,3,21,22,0,2,23,24,0,3,25,27,0,1,28,29,0,3,29,30,0,1,31,34,0,1,35,36,0,3,37,38,0,1,39,43,0,3,43,44,0,1,45,48,0,1,49,50,0,3,51,52,0,1,53,57,0,3,57,58,0,1,59,62,0,1,63,64,0,3,65,66,0,1,67,71,0,3,71,72,0,1,73,76,0,1,77,78,0,3,79,80,0,2,81,82,0,3,83,85,0,2,86,87,3,3,87,88,0,1,89,92,0,1,93,94,0,3,95,96,0,1,97,101,0,3,101,102,0,1,103,107,0,1,108,111,0,3,111,112,0,1,113,117,0,3,118,120,0,3,121,122,0,1,122,123,0,3,124,126,0,2,127,128,0,3,129,131,0,1,132,133,0,3,134,136,0,1,137,141,0,3,141,142,0,3,143,145,0,1,146,147,0,3,148,150,0,2,151,152,0,3,152,153,0,1,154,155,0,3,156,158,0,1,159,163,0,3,163,164,0,1,165,169,0,1,170,173,0,3,173,174,0,3,175,176,0,1,176,180,0,3,181,183,0,3,184,185,0,1,185,186,0,3,187,189,0,3,190,191,0,1,191,194,0,3,194,195,0,1,195,196,0,3,196,197,0,1,197,198,0,3,198,199,0,3,200,201,0,1,202,203,0,3,204,205,0,1,206,209,0,3,209,210,0,1,210,211,0,3,211,212,0,1,212,213,0,3,213,214,0,3,215,216,0,2,217,218,1,3,219,220,0,1,221,222,0,3,222,223,0,3,224,226,0,1,227,228,0,3,229,231,0,1,232,237,0,3,237,238,0,1,238,239,0,3,239,240,0,1,240,241,0,3,242,244,0,1,245,248,0,3,248,249,0,1,249,250,0,3,250,251,0,1,251,252,0,3,252,253,0,3,253,254,0,3,254,255,0,3,258,260,0,1,261,262,0,3,263,265,0,3,266,267,0,1,267,270,0,3,270,271,0,1,271,272,0,3,272,273,0,1,273,274,0,3,274,275,0,3,276,277,0,1,278,279,0,3,280,281,0,1,282,285,0,3,285,286,0,1,286,287,0,3,287,288,0,1,288,289,0,3,289,290,0,3,291,292,0,2,293,294,1,3,295,296,0,1,297,298,0,3,298,299,0,3,299,300,0,1,301,302,0,3,303,305,0,1,306,311,0,3,311,312,0,1,312,313,0,3,313,314,0,1,314,315,0,3,316,318,0,1,319,322,0,3,322,323,0,1,323,324,0,3,324,325,0,1,325,326,0,3,326,327,0,3,327,328,0,3,328,329,0,1,330,334,0,1,335,340,0,3,340,341,0,1,342,346,0,3,347,349,0,3,350,351,0,1,351,352,0,3,353,355,0,1,356,357,0,3,358,360,0,1,361,362,0,3,363,365,0,1,366,370,0,3,370,371,0,1,372,373,0,3,374,376,0,3,377,378,0,1,378,379,0,3,379,380,0,1,381,382,0,3,383,385,0,2,386,387,0,3,387,388,0,1,389,390,0,3,391,393,0,1,394,399,0,3,399,400,0,1,401,405,0,1,406,410,0,3,410,411,0,3,412,413,0,1,413,417,0,3,418,420,0,1,421,425,0,3,425,426,0,1,426,427,0,3,428,430,0,1,431,432,0,3,433,435,0,3,436,437,0,1,437,438,0,3,438,439,0,1,439,440,0,3,441,443,0,1,444,445,0,3,446,448,0,1,449,450,0,3,451,453,0,3,454,455,0,1,455,456,0,3,456,457,0,1,457,458,0,3,458,459,0,3,459,460,0,3,461,463,0,1,464,465,0,3,466,468,0,1,469,473,0,3,473,474,0,1,474,475,0,3,476,478,0,1,479,480,0,3,481,483,0,1,484,485,0,3,485,486,0,1,486,487,0,3,487,488,0,3,488,489,0,1,490,491,0,3,492,494,0,1,495,499,0,3,499,500,0,1,500,501,0,3,502,504,0,1,505,506,0,3,507,509,0,1,510,511,0,3,511,512,0,1,512,513,0,3,513,514,0,3,514,515,0,1,516,517,0,3,518,520,0,2,521,522,0,3,522,523,0,1,524,525,0,3,526,528,0,1,529,534,0,3,534,535,0,1,536,540,0,1,541,547,0,3,547,548,0,1,549,550,0,3,551,553,0,1,554,557,0,3,557,558,0,1,558,559,0,3,559,560,0,1,560,561,0,3,562,564,0,1,565,566,0,3,566,567,0,1,567,571,0,3,572,574,0,3,575,576,0,1,576,577,0,3,577,578,0,1,578,579,0,3,580,582,0,1,583,584,0,3,584,585,0,1,585,586,0,3,587,589,0,1,590,591,0,3,591,592,0,3,593,595,0,1,596,597,0,3,598,600,0,1,601,606,0,3,606,607,0,1,608,612,0,1,613,616,0,3,616,617,0,3,618,619,0,1,619,620,0,3,621,623,0,3,624,625,0,1,625,626,0,3,627,629,0,1,630,634,0,3,634,635,0,1,635,636,0,3,636,637,0,1,637,638,0,3,639,641,0,1,642,643,0,3,643,644,0,1,644,648,0,3,649,651,0,1,652,653,0,3,653,654,0,1,654,655,0,3,656,658,0,3,659,660,0,1,660,661,0,3,661,662,0,1,662,663,0,3,663,664,0,3,665,667,0,1,668,669,0,3,670,672,0,1,673,677,0,3,677,678,0]))]
set_option maxHeartbeats 4000000 in
theorem me0:Tg HC gp 4000 71 mu0 [2567]=some (mg0,2568,mo0):=by kernel_rfl
noncomputable def JX (f:Nat) (a:List GV) (H:GH):Option (GV×GH):=bif Nat.beq f 71 then(bif isS a (UD,679)then OX mg0 2568 mo0 H else Xg f a H)else Xg f a H
noncomputable def aga:GP:=⟨vW,gp.cat,JX,gp.exn⟩
theorem Hl {T:Nat} {k:eK (gl T)} {w:World} {e:dN} {H i:GH} {g:GV} {d:List GV} {j:fV} {f:Nat} (h:JX f d H=some (g,i)) (R:fI k e H w) (a:oQ e d j):kE Tryz.prog k e f j w g i:=by
 unfold JX at h;cases b:Nat.beq f 71 with
 |false=>rw[b]at h;exact MV h R a
 | true =>
  rw[b]at h;cases c:isS d (UD,679)with
  |false=>rw[c]at h;exact MV h R a
  |true=>
   rw[c]at h;rw[Nat.eq_of_beq_eq_true b];rw[Xv c]at a;obtain⟨V,rfl,n⟩:=a.one;obtain⟨x,rfl,l,m⟩:=n.str_inv;exact Ti (gs:=gl T) (gs2:=gl T) Z Z Gu Xi me0 Tryz.call71 (oQ.cons (RP l m) .nil) h R
theorem abM {T:Nat} (a:eK (gl T)):TT Tryz.prog aga HC.fns a:=⟨(Xi a).tab,(Xi a).mixed,(Xi a).fns,λh d w c R b=>Hl h R b,(Xi a).exn,(Xi a).cat⟩
def mu1:List GV:=[.str UD 679]
def mg1:GV:=(.agg [(.str 499918267762 5),(.sl 2815 0 6 6),(.sl 4970 0 6 3)])
def XP:OL:=[(2815,2815,.cells [(.str 100 1),(.int .i64 (.ofNat 1)),(.int .i64 (.ofNat 0)),(.int .i64 (.ofNat 0)),(.int .i64 (.ofNat 1)),(.int .i64 (.ofNat 0)),(.str 112 1),(.int .i64 (.ofNat 3)),(.int .i64 (.ofNat 0)),(.int .i64 (.ofNat 0)),(.int .i64 (.ofNat 0)),(.int .i64 (.ofNat 0)),(.str 115 1),(.int .i64 (.ofNat 2)),(.int .i64 (.ofNat 0)),(.int .i64 (.ofNat 0)),(.int .i64 (.ofNat 0)),(.int .i64 (.ofNat 0)),(.str 98 1),(.int .i64 (.ofNat 2)),(.int .i64 (.ofNat 0)),(.int .i64 (.ofNat 0)),(.int .i64 (.ofNat 0)),(.int .i64 (.ofNat 0)),(.str 121 1),(.int .i64 (.ofNat 1)),(.int .i64 (.ofNat 0)),(.int .i64 (.ofNat 3)),(.int .i64 (.ofNat 0)),(.int .i64 (.ofNat 0)),(.str 114 1),(.int .i64 (.ofNat 2)),(.int .i64 (.ofNat 0)),(.int .i64 (.ofNat 0)),(.int .i64 (.ofNat 0)),(.int .i64 (.ofNat 0))]),
 (2939,2939,.cells (zQ [41,0,10,0,42,0,36,0,5,0,1,0,36,0,5,1,4,0])),
 (2965,2965,.cells [(.int .i64 (.ofNat 1)),(.int .i64 (.ofNat 0))]),
 (2998,2998,.cells [(.int .i64 (.ofNat 4)),(.int .i64 (.ofNat 0))]),
 (3006,3006,.cells [(.int .i64 (.ofNat 0)),(.sl 2965 0 1 2),(.int .i64 (.ofNat 1)),(.sl 2998 0 1 2)]),
 (3394,3394,.cells (zQ [41,0,19,0,10,0,42,0,36,0,5,0,43,0,37,0,24,0,12,0,6,0,33,0,24,0,12,0,1,1,6,0,36,0,5,1,23,0,35,0,12,0,24,0,12,0])),
 (3575,3575,.cells (zQ [43,0,37,0,24,0,12,0,6,0,33,0,24,0,12,0,1,1,6,0])),
 (3701,3701,.cells (zQ [23,0,35,0,12,0,24,0,12,0])),
 (3709,3709,.cells [(.int .i64 (.ofNat 0)),(.sl 3575 0 10 2),(.int .i64 (.ofNat 1)),(.sl 3701 0 5 2)]),
 (3798,3798,.cells (zQ [41,0,41,0,10,0,19,0,5,2,5,5])),
 (3825,3825,.cells [(.int .i64 (.ofNat 2)),(.int .i64 (.ofNat 0))]),
 (3867,3867,.cells (zQ [19,0,5,3])),
 (3899,3899,.cells [(.int .i64 (.ofNat 1)),(.int .i64 (.ofNat 0))]),
 (3932,3932,.cells [(.int .i64 (.ofNat 3)),(.int .i64 (.ofNat 0))]),
 (3940,3940,.cells [(.int .i64 (.ofNat 2)),(.sl 3825 0 1 2),(.int .i64 (.ofNat 3)),(.sl 3867 0 2 2),(.int .i64 (.ofNat 4)),(.sl 3899 0 1 2),(.int .i64 (.ofNat 5)),(.sl 3932 0 1 2)]),
 (4174,4174,.cells (zQ [41,0,19,0,10,0,21,0,41,0,35,0,11,0,5,1,42,0,36,0,12,3,5,3,41,0,5,2,19,0,12,2])),
 (4274,4274,.cells (zQ [21,0,41,0,35,0,11,0,5,1,12,2])),
 (4380,4380,.cells (zQ [21,0,41,0,35,0,11,0,5,1,12,3])),
 (4412,4412,.cells [(.int .i64 (.ofNat 1)),(.int .i64 (.ofNat 0))]),
 (4445,4445,.cells [(.int .i64 (.ofNat 3)),(.int .i64 (.ofNat 0))]),
 (4453,4453,.cells [(.int .i64 (.ofNat 2)),(.sl 4274 0 6 2),(.int .i64 (.ofNat 3)),(.sl 4380 0 6 2),(.int .i64 (.ofNat 4)),(.sl 4412 0 1 2),(.int .i64 (.ofNat 5)),(.sl 4445 0 1 2)]),
 (4664,4664,.cells (zQ [41,0,5,2,20,0,42,0,36,0,12,1,17,0,41,0,19,0,12,2,35,0,12,3,5,3])),
 (4691,4691,.cells [(.int .i64 (.ofNat 3)),(.int .i64 (.ofNat 0))]),
 (4699,4699,.cells [(.int .i64 (.ofNat 2)),(.sl 4691 0 1 2)]),
 (4927,4927,.cells (zQ [41,0,41,0,19,0,5,2,19,0,5,5,21,0,41,0,41,0,35,0,12,1,17,0,12,5,19,0,12,2])),
 (4954,4954,.cells [(.int .i64 (.ofNat 2)),(.int .i64 (.ofNat 0))]),
 (4962,4962,.cells [(.int .i64 (.ofNat 5)),(.sl 4954 0 1 2)]),
 (4970,4970,.cells [(.str 7368564 3),(.sl 2939 0 9 2),(.sl 3006 0 2 2),(.str 7827308 3),(.sl 3394 0 23 2),(.sl 3709 0 2 2),(.str 474214786402 5),(.sl 3798 0 6 2),(.sl 3940 0 4 2),(.str 1701536116 4),(.sl 4174 0 16 2),(.sl 4453 0 4 2),(.str 114844899371366 6),(.sl 4664 0 13 2),(.sl 4699 0 1 2),(.str 7041889 3),(.sl 4927 0 15 2),(.sl 4962 0 1 2)])]
set_option maxHeartbeats 4000000 in
theorem me1:Tg HC aga 4000 23 mu1 [2815,2939,2965,2998,3006,3394,3575,3701,3709,3798,3825,3867,3899,3932,3940,4174,4274,4380,4412,4445,4453,4664,4691,4699,4927,4954,4962,4970]=some (mg1,7588,XP):=by kernel_rfl
noncomputable def Rh (f:Nat) (a:List GV) (H:GH):Option (GV×GH):=bif Nat.beq f 23 then(bif isS a (UD,679)then OX mg1 7588 XP H else JX f a H)else JX f a H
noncomputable def agb:GP:=⟨vW,gp.cat,Rh,gp.exn⟩
theorem UB {T:Nat} {k:eK (gl T)} {w:World} {e:dN} {H i:GH} {g:GV} {d:List GV} {j:fV} {f:Nat} (h:Rh f d H=some (g,i)) (R:fI k e H w) (a:oQ e d j):kE Tryz.prog k e f j w g i:=by
 unfold Rh at h;cases b:Nat.beq f 23 with
 |false=>rw[b]at h;exact Hl h R a
 | true =>
  rw[b]at h;cases c:isS d (UD,679)with
  |false=>rw[c]at h;exact Hl h R a
  |true=>
   rw[c]at h;rw[Nat.eq_of_beq_eq_true b];rw[Xv c]at a;obtain⟨V,rfl,n⟩:=a.one;obtain⟨x,rfl,l,m⟩:=n.str_inv;exact Ti (gs:=gl T) (gs2:=gl T) Z Z Gu abM me1 Tryz.call23 (oQ.cons (RP l m) .nil) h R
theorem af_ {T:Nat} (a:eK (gl T)):TT Tryz.prog agb HC.fns a:=⟨(Xi a).tab,(Xi a).mixed,(Xi a).fns,λh d w c R b=>UB h R b,(Xi a).exn,(Xi a).cat⟩
noncomputable abbrev gp2:GP:=agb
theorem ajh {T:Nat} (a:eK (gl T)):TT Tryz.prog gp2 HC.fns a:=af_ a
end Go.Gx
end
namespace Go.Gx
open Go Go.Sx Go.RowKit
structure Hd (n:Nat) (os:OL) (ρ:dN) (w:World) (S:Nat->Prop):Prop where
 live:∀h o,(IT n os).get h=some o->∃l,ρ h=some l∧S l.b∧xO ρ w l o
 inj:∀h h' o o' l l',(IT n os).get h=some o->(IT n os).get h'=some o'->ρ h=some l->ρ h'=some l'->l.b=l'.b->h=h'
 fresh:∀h,n<=h->ρ h=none
 dense:∀h,h<n->∃l,ρ h=some l
 vers:∀h v l,(IT n os).ver h=some v->ρ h=some l->∃lv,ρ v=some lv∧w.heap[l.b]? = some lv.x∧(IT n os).get h=some lv.o
theorem Hd.mono {n:Nat} {p:OL} {f:dN} {w w':World} {S g:Nat->Prop} (H:Hd n p f w S) (h:∀k,S k->k<w.heap.size->g k∧w'.heap[k]? = w.heap[k]?):Hd n p f w' g:=by
 refine⟨λk o s=> ?_,H.inj,H.fresh,H.dense,λk v l m j=> ?_⟩
 ·obtain⟨l,a,b,c⟩:=H.live k o s;obtain⟨d,e⟩:=h _ b c.lt;exact⟨l,a,d,c.move (dN.le_refl f) e⟩
 ·obtain⟨u,a,b,c⟩:=H.vers k v l m j;obtain⟨o,t⟩:=rO.1 m;obtain⟨x,i,q,r⟩:=H.live k o (gO.2 ⟨v,t⟩);rw[j]at i;cases i;exact⟨u,a,by rw[(h _ q r.lt).2];exact b,c⟩
theorem fI.hd {gs:yX} {b:eK gs} {n:Nat} {d:OL} {ρ:dN} {w:World} {S:Nat->Prop} (R:fI b ρ (IT n d) w) (e:∀k,b.mine k->S k):Hd n d ρ w S:=
 ⟨λh o f=>let ⟨l,a,b,c⟩:=R.live h o f;⟨l,a,e _ b,c⟩,R.inj,R.fresh,R.dense,R.vers⟩
def Vp (n:Nat) (b:OL) (g:GV) (V:Value):aZ where
 p w S:=∃a,Hd n b a w S∧Rl a g V
 mono:=fun⟨a,h,r⟩ k=>⟨a,h.mono k,r⟩
def Hd.O (n:Nat) (a:OL) (c:dN) (k:Nat):Prop:=∃h o l,(IT n a).get h=some o∧c h=some l∧l.b=k
def Hd.base (n:Nat) (os:OL) (ρ:dN) (w:World):eK noG:=⟨w,Hd.O n os ρ,λ_ h=>absurd h List.not_mem_nil⟩
theorem Hd.rel {n:Nat} {b:OL} {ρ:dN} {w:World} {S:Nat->Prop} (H:Hd n b ρ w S):fI (Hd.base n b ρ w) ρ (IT n b) w:=
 ⟨BN.refl w,λh o d=>let ⟨l,a,_,c⟩:=H.live h o d;⟨l,a,.inr ⟨h,o,l,d,a,rfl⟩,c⟩,H.inj,H.fresh,H.dense,H.vers,λi v e=>by simp[Hd.base,noG]at e⟩
noncomputable def ER (H:GH) (b:OL):Bool:=List.rec (motive:=λ_=>Bool) true (λx _ a=>Option.casesOn (motive:=λ_=>Bool) (H.ver x.1) false λv=>bif Nat.beq v x.2.1 then a else false) b
theorem PE {H:GH}:∀{a:OL},ER H a=true->∀x∈a,H.ver x.1=some x.2.1
 | [],_,x,b=>by cases b
 | y :: a, h, x, b => by
  have h:Option.casesOn (motive:=λ_=>Bool) (H.ver y.1) false (λv=>bif Nat.beq v y.2.1 then ER H a else false)=true:=h;cases c:H.ver y.1 with
  |none=>rw[c]at h;cases h
  | some v =>
   rw[c]at h;obtain⟨d,f⟩:=bM.1 (show(bif Nat.beq v y.2.1 then(some (ER H a))else none)=some true by
    have h:(bif Nat.beq v y.2.1 then ER H a else false)=true:=h;cases e:Nat.beq v y.2.1<;>rw[e]at h<;>first|cases h|(show some (ER H a)=some true;rw[show ER H a=true from h]))
   rcases List.mem_cons.1 b with rfl|b
   ·rw[c,Nat.eq_of_beq_eq_true d]
   ·exact PE (Option.some.inj f) x b
noncomputable def okV (a:OL) (r:OR):Bool:=Option.casesOn (motive:=λ_=>Bool) r false λr=>Option.casesOn (motive:=λ_=>Bool) r.1.asB false λb=>bif b then ER r.2 a else false
theorem XX {d:OL} {r:OR} (h:okV d r=true):∃a,r=some (.bool true,a)∧ER a d=true:=by
 cases r with
 |none=>cases h
 | some r =>
  obtain⟨g,a⟩:=r;have h:Option.casesOn (motive:=λ_=>Bool) g.asB false (λb=>bif b then ER a d else false)=true:=h;cases c:g.asB with
  |none=>rw[c]at h;cases h
  |some b=>
   rw[c]at h;cases b with
   |false=>cases h
   |true=>exact⟨a,by rw[BA c],h⟩
theorem UF {P:Program} {G:GP} {x:FT} (F:∀T:eK noG,TT P G x T) {fuel f n:Nat} {d:OL} {g:GV} {V:Value} (H:aW P f) (h:∃r,SG G x fuel f [g] (IT n d)=some (.bool true,r)∧ER r d=true) {w:World} {S:Nat->Prop} (Q:(Vp n d g V).p w S):
  Calls P f #[V] w λe u=>e = .returned (.bool true)∧Mk w u:=by
 obtain⟨U,y,M⟩:=Q;obtain⟨r,D,E⟩:=h;rcases FY F D y.rel (.cons M .nil)with⟨v,u,W,m,_⟩|⟨_,I⟩
 ·have:=H #[V] w;rw[this]at m;cases m
 ·refine I.mono ?_;rintro e u ⟨v,X,rfl,j,c,N⟩;refine⟨by rw[N.bool_inv],c.ext.os,c.ext.tape,c.ext.output,c.ext.size,λk K=> ?_⟩
  by_cases A:Hd.O n d U k
  ·obtain⟨i,o,l,J,z,rfl⟩:=A;obtain⟨t,q⟩:=gO.1 J;have L:(i,t,o)∈d:=Na ((DK d i).symm.trans q);obtain⟨R,a,b,_⟩:=y.vers i t l (rO.2 ⟨o,q⟩) z;obtain⟨s,B,C,_⟩:=c.vers i t l (PE E _ L) (j _ _ z);have:R=s:=by have:=j _ _ a;rw[B]at this;exact(Option.some.inj this).symm
   subst this;exact C.trans b.symm
  ·exact c.ext.block k K A
end Go.Gx
namespace Go.Proofs.YtmdlcmbplnhdnaaGreatDoor
open Go Go.Sx Go.Gx
set_option maxRecDepth 100000
abbrev xP:=ByteArray×(Value×fM)×(Value×List (Int×(Value×fM)))
def Al (z:xP):fM×List (Int×fM):=(z.2.1.2,z.2.2.2.map λs=>(s.1,s.2.2))
def wX:ByteArray:=(ByteArray.mk #[112,114,111,103,114,97,109,32,114,101,115,101,116,59,10,118,97,114,32,100,32,58,32,48,32,46,46,32,110,59,10,118,97,114,32,112,32,58,32,112,111,114,116,59,10,118,97,114,32,115,32,58,32,98,111,111,108,59,10,118,97,114,32,98,32,58,32,98,111,111,108,59,10,118,97,114,32,121,32,58,32,48,32,46,46,32,51,59,10,118,97,114,32,114,32,58,32,98,111,111,108,59,10,114,117,108,101,32,116,111,112,58,32,114,111,111,116,32,38,38,32,40,100,32,33,61,32,48,32,124,124,32,112,32,33,61,32,110,111,110,101,41,32,45,62,32,100,32,58,61,32,48,44,32,112,32,58,61,32,110,111,110,101,59,10,114,117,108,101,32,108,111,119,58,32,33,114,111,111,116,32,38,38,32,40,100,32,33,61,32,40,109,105,110,40,113,46,100,41,32,60,32,110,32,63,32,109,105,110,40,113,46,100,41,32,43,32,49,32,58,32,110,41,32,124,124,32,112,32,33,61,32,102,105,114,115,116,40,113,46,100,32,61,61,32,109,105,110,40,113,46,100,41,41,41,10,32,32,45,62,32,100,32,58,61,32,40,109,105,110,40,113,46,100,41,32,60,32,110,32,63,32,109,105,110,40,113,46,100,41,32,43,32,49,32,58,32,110,41,44,32,112,32,58,61,32,102,105,114,115,116,40,113,46,100,32,61,61,32,109,105,110,40,113,46,100,41,41,59,10,114,117,108,101,32,98,101,103,105,110,58,32,114,111,111,116,32,38,38,32,33,115,32,38,38,32,114,32,45,62,32,115,32,58,61,32,116,114,117,101,44,32,98,32,58,61,32,33,98,44,32,121,32,58,61,32,48,44,32,114,32,58,61,32,102,97,108,115,101,59,10,114,117,108,101,32,116,97,107,101,58,32,33,114,111,111,116,32,38,38,32,115,111,109,101,40,113,32,61,61,32,112,32,38,38,32,40,113,46,98,32,33,61,32,98,32,124,124,32,115,32,38,38,32,33,113,46,115,41,41,32,45,62,32,115,32,58,61,32,115,111,109,101,40,113,32,61,61,32,112,32,38,38,32,113,46,115,41,44,32,98,32,58,61,32,115,111,109,101,40,113,32,61,61,32,112,32,38,38,32,113,46,98,41,44,32,121,32,58,61,32,48,44,32,114,32,58,61,32,102,97,108,115,101,59,10,114,117,108,101,32,102,105,110,105,115,104,58,32,115,32,38,38,32,97,108,108,40,113,46,112,32,33,61,32,113,46,98,97,99,107,32,124,124,32,33,113,46,115,32,38,38,32,113,46,98,32,61,61,32,98,41,32,45,62,32,115,32,58,61,32,102,97,108,115,101,59,10,114,117,108,101,32,97,115,107,58,32,33,115,32,38,38,32,33,114,32,38,38,32,115,111,109,101,40,113,46,112,32,61,61,32,113,46,98,97,99,107,32,38,38,32,113,46,114,32,38,38,32,33,113,46,115,41,32,45,62,32,114,32,58,61,32,116,114,117,101,59,10])
def HA:Ig:=[((ByteArray.mk #[100]),(1:Int),(0:Int),(0:Int),(1:Int),(0:Int)),((ByteArray.mk #[112]),(3:Int),(0:Int),(0:Int),(0:Int),(0:Int)),((ByteArray.mk #[115]),(2:Int),(0:Int),(0:Int),(0:Int),(0:Int)),((ByteArray.mk #[98]),(2:Int),(0:Int),(0:Int),(0:Int),(0:Int)),((ByteArray.mk #[121]),(1:Int),(0:Int),(3:Int),(0:Int),(0:Int)),((ByteArray.mk #[114]),(2:Int),(0:Int),(0:Int),(0:Int),(0:Int))]
def Cy:KG:=[([(41,0),(10,0),(42,0),(36,0),(5,0),(1,0),(36,0),(5,1),(4,0)],[(0,[(1,0)]),(1,[(4,0)])]),([(41,0),(19,0),(10,0),(42,0),(36,0),(5,0),(43,0),(37,0),(24,0),(12,0),(6,0),(33,0),(24,0),(12,0),(1,1),(6,0),(36,0),(5,1),(23,0),(35,0),(12,0),(24,0),(12,0)],[(0,[(43,0),(37,0),(24,0),(12,0),(6,0),(33,0),(24,0),(12,0),(1,1),(6,0)]),(1,[(23,0),(35,0),(12,0),(24,0),(12,0)])]),([(41,0),(41,0),(10,0),(19,0),(5,2),(5,5)],[(2,[(2,0)]),(3,[(19,0),(5,3)]),(4,[(1,0)]),(5,[(3,0)])]),([(41,0),(19,0),(10,0),(21,0),(41,0),(35,0),(11,0),(5,1),(42,0),(36,0),(12,3),(5,3),(41,0),(5,2),(19,0),(12,2)],[(2,[(21,0),(41,0),(35,0),(11,0),(5,1),(12,2)]),(3,[(21,0),(41,0),(35,0),(11,0),(5,1),(12,3)]),(4,[(1,0)]),(5,[(3,0)])]),([(41,0),(5,2),(20,0),(42,0),(36,0),(12,1),(17,0),(41,0),(19,0),(12,2),(35,0),(12,3),(5,3)],[(2,[(3,0)])]),([(41,0),(41,0),(19,0),(5,2),(19,0),(5,5),(21,0),(41,0),(41,0),(35,0),(12,1),(17,0),(12,5),(19,0),(12,2)],[(5,[(2,0)])])]
def abQ:List ((Nat×Nat)×fM×List (Int×fM)):=[((7368564,3),[(41,0),(10,0),(42,0),(36,0),(5,0),(1,0),(36,0),(5,1),(4,0)],[(0,[(1,0)]),(1,[(4,0)])]),((7827308,3),[(41,0),(19,0),(10,0),(42,0),(36,0),(5,0),(43,0),(37,0),(24,0),(12,0),(6,0),(33,0),(24,0),(12,0),(1,1),(6,0),(36,0),(5,1),(23,0),(35,0),(12,0),(24,0),(12,0)],[(0,[(43,0),(37,0),(24,0),(12,0),(6,0),(33,0),(24,0),(12,0),(1,1),(6,0)]),(1,[(23,0),(35,0),(12,0),(24,0),(12,0)])]),((474214786402,5),[(41,0),(41,0),(10,0),(19,0),(5,2),(5,5)],[(2,[(2,0)]),(3,[(19,0),(5,3)]),(4,[(1,0)]),(5,[(3,0)])]),((1701536116,4),[(41,0),(19,0),(10,0),(21,0),(41,0),(35,0),(11,0),(5,1),(42,0),(36,0),(12,3),(5,3),(41,0),(5,2),(19,0),(12,2)],[(2,[(21,0),(41,0),(35,0),(11,0),(5,1),(12,2)]),(3,[(21,0),(41,0),(35,0),(11,0),(5,1),(12,3)]),(4,[(1,0)]),(5,[(3,0)])]),((114844899371366,6),[(41,0),(5,2),(20,0),(42,0),(36,0),(12,1),(17,0),(41,0),(19,0),(12,2),(35,0),(12,3),(5,3)],[(2,[(3,0)])]),((7041889,3),[(41,0),(41,0),(19,0),(5,2),(19,0),(5,5),(21,0),(41,0),(41,0),(35,0),(12,1),(17,0),(12,5),(19,0),(12,2)],[(5,[(2,0)])])]
def PF (V:Value):aZ:=⟨λw S=>(Vp 7588 XP mg1 V).p w S,λ{w w' S S'} h k=>by
 rcases h with h
 ·exact((Vp 7588 XP mg1 V).mono h k)⟩
noncomputable def VY {R:Type} (D:KG) (k:List xP->Option R):Option R:=open Classical in if h:∃r,∀z:List xP,z.map Al=D->k z=some r then some (Classical.choose h)else none
theorem Uh {R:Type} {D:KG} {k:List xP->Option R} {r:R} (h:VY D k=some r) (z:List xP) (a:z.map Al=D):k z=some r:=by
 unfold VY at h;split at h
 ·rename_i e;rw[<-Option.some.inj h];exact Classical.choose_spec e z a
 cases h
theorem ZA {R:Type} {D:KG} {k:List xP->Option R} {r:R} (h:∀z:List xP,z.map Al=D->k z=some r):VY D k=some r:=by
 have e:∃r,∀z:List xP,z.map Al=D->k z=some r:=⟨r,h⟩
 unfold VY;rw[dif_pos e];let z:List xP:=D.map λx=>(ByteArray.empty,(undef,x.1),(undef,x.2.map λs=>(s.1,(undef,s.2))))
 have c:z.map Al=D:=by
  show(D.map _).map Al=D;rw[List.map_map]
  conv=>rhs;rw[<-List.map_id D]
  refine List.map_congr_left λx _=>?_;obtain⟨a,b⟩:=x;simp[Al,Function.comp_def]
 rw[<-Classical.choose_spec e z c,h z c]
def nX (a:Nat) (b:ByteArray):Option YF:=if b=wX then some ((ByteArray.mk #[114,101,115,101,116]),HA,Cy)else none
theorem Wi:aW Tryz.prog 23:=Tryz.call23
theorem Sy:aW Tryz.prog 118:=Tryz.call118
theorem Pp:Ik wX=(62612022078668281795505554093363622559854195865949253215105900396045672359969877880166549174032343132993734957765569202214538907514566311350427701009544032694847337705793280154083690688451269616688782133795410379376928705130345296445151552924450334836917827234573469831105668184247309683323748037249326305257450566500613104582596739355858495108587194514699348039550352061107652063950585699432193800786308390540153052463342825471615451497403378237530695269756800903089344746135921082798862585170912282432061314226997690214573863871773160495090950365393003392302336199511227963345777762340303723847551010267882950244475187531638497589816884840746003832656122559568072415127281877587919955134951848720898362784721630179183632514071187737718801766045181382178059597531935953865739058317213402067112106178269539818406468794623567714368406699984352401615611648009540554670638379077003046691601651659503488023036016650041344236444492625067110609540290467946795853434537583557082408411183186533670519462632865144031819183310381452310956185194634675703732849182713820334837695243446565596654286740386031565011357996399800921820918955437335624617843094112596863701508946442457135114386851122925397296113071978999231011209672540734656076492347048890983156526043032785285927167596865683405763291449118335047510792439178363711784660496025932951555546329846668545661249500619781993860494368395467151808107769959479474456951167188694307489519361853029722953071634727739222067984252267479508130870821814111526873691367656719627636282162632229619012164283959600299915921951610829461135327475232013270964287406921117221047932843602716792612622967992944,679):=by kernel_rfl
theorem Yd:Ik (ByteArray.mk #[114,101,115,101,116])=(499918267762,5):=by kernel_rfl
theorem Yg:MM (IT 7588 XP) 6 (dP 1 adp (dP 1 (dI .i64) (dP 1 (dI .i64) (dP 1 (dI .i64) (dP 1 (dI .i64) (dI .i64)))))) (.sl 2815 0 6 6)=some (HA.map λz=>(Ik z.1,z.2.1,z.2.2.1,z.2.2.2.1,z.2.2.2.2.1,z.2.2.2.2.2)):=by kernel_rfl
theorem UU:MM (IT 7588 XP) 3 (dP 1 adp (dP 1 (dS (IT 7588 XP) 2 (dP 1 (dI .i64) (dI .i64))) (dS (IT 7588 XP) 2 (dP 1 (dI .i64) (dS (IT 7588 XP) 2 (dP 1 (dI .i64) (dI .i64))))))) (.sl 4970 0 6 3)=some abQ:=by kernel_rfl
theorem aaZ:abQ.map (λy=>(y.2.1,y.2.2))=Cy:=by kernel_rfl
theorem Ye (r:YF) (h:some ((ByteArray.mk #[114,101,115,101,116]),HA,Cy)=some r):aX Tryz.prog 23 #[vS wX] [Gb 0 (cellsOf HO xJ)] (λx:Value×Value×{z:List xP // z.map Al=r.2.2}=>Value.agg #[vS r.1,x.1,x.2.1]) (λx l=>l) (λx l=>Sl aT x.1 r.2.1::Sl aK x.2.1 x.2.2.1::PF (Value.agg #[vS r.1,x.1,x.2.1])::l):=by
 cases h;refine Ry (gs:=gl) (LO:=λx:Value×Value×{z:List xP // z.map Al=Cy}=>[Sl aT x.1 HA,Sl aK x.2.1 x.2.2.1,PF (Value.agg #[vS (ByteArray.mk #[114,101,115,101,116]),x.1,x.2.1])]) Xh (λT b=>UL Gu abM me1 Wi (.cons (RP (x:=wX) (congrArg Prod.fst Pp).symm (congrArg Prod.snd Pp).symm) .nil) Z b) ?_;intro T b B w V a R g;have y:=g;obtain⟨f,rfl,c,_⟩:=g.agg_inv;obtain⟨C,f,rfl,m,c⟩:=c.of_cons;obtain⟨j,f,rfl,n,c⟩:=c.of_cons;obtain⟨k,rfl,o⟩:=c.one;obtain rfl:=abo m Yd;obtain⟨A,v,s⟩:=Cj R a (h_.pair h_.str (h_.pair (h_.int .i64) (h_.pair (h_.int .i64) (h_.pair (h_.int .i64) (h_.pair (h_.int .i64) (h_.int .i64)))))) n Yg;have e:A=HA:=Kd (DD (λ_ _=>OI) (DD J_ (DD J_ (DD J_ (DD J_ J_))))) v;subst e;obtain⟨i,u,t⟩:=Cj (r:=aK) R a (h_.pair h_.str (h_.pair (h_.sl R a (h_.pair (h_.int .i64) (h_.int .i64))) (h_.sl R a (h_.pair (h_.int .i64) (h_.sl R a (h_.pair (h_.int .i64) (h_.int .i64))))))) o UU;have d:i.map Al=Cy:=by
  rw[<-aaZ,<-u,List.map_map];refine List.map_congr_left λx _=>?_;simp[Al,Function.comp_def]
 exact⟨(j,k,⟨i,d⟩),rfl,List.forall_mem_cons.2 ⟨s,List.forall_mem_cons.2 ⟨t,List.forall_mem_cons.2 ⟨(⟨B,fI.hd R a,y⟩),λq p=>absurd p List.not_mem_nil⟩⟩⟩⟩
theorem YX:okV XP (JB HC gp0 4000 118 [mg1] (IT 7588 XP))=true:=by kernel_rfl
theorem Iw (a:Nat) {b:ByteArray} (r:YF) (h:nX a b=some r):aX Tryz.prog 23 #[vS b] [Gb 0 (cellsOf HO xJ)] (λx:Value×Value×{z:List xP // z.map Al=r.2.2}=>Value.agg #[vS r.1,x.1,x.2.1]) (λx l=>l) (λx l=>Sl aT x.1 r.2.1::Sl aK x.2.1 x.2.2.1::PF (Value.agg #[vS r.1,x.1,x.2.1])::l):=by
 unfold nX at h;by_cases c:b=wX
 ·subst c;exact Ye r ((if_pos Z).symm.trans h)
 rw[if_neg c]at h;cases h
theorem Po (f:Nat):nX f wX=some ((ByteArray.mk #[114,101,115,101,116]),HA,Cy):=by
 unfold nX;exact if_pos Z
def BE (fuel:Nat) (a:ByteArray×List (ByteArray×Int×Int×Int×Int×Int)×List (xP)):Option Bool:=some true
theorem K_ (a:Nat) {b:ByteArray×List (ByteArray×Int×Int×Int×Int×Int)×List (xP)} (d f:Value) (r:Bool) (h:BE a b=some r):
  aX Tryz.prog 118 #[Value.agg #[vS b.1,d,f]] [Sl aT d b.2.1,Sl aK f b.2.2,PF (Value.agg #[vS b.1,d,f])] (λx:Unit=>vB (r)) (λx l=>l) (λ_ l=>l):=by
 cases h;intro w S z;have g:Calls Tryz.prog 118 #[Value.agg #[vS b.1,d,f]] w λe o=>e = .returned (.bool true)∧Mk w o:=by
  rcases z _ (List.mem_of_getElem? (i:=2) rfl)with v
  ·refine UF (fuel:=4000) ajg Sy ?_ v;obtain⟨p,n,s⟩:=XX YX;rw[FZ (G:=gp0) Gu]at n;exact⟨p,n,s⟩
 refine g.mono ?_;rintro e o ⟨rfl,c⟩;exact⟨(),rfl,⟨c.os,c.tape,c.output,c.size,λk t _=>c.block k t⟩,λ_ _=>False,⟨λi m u=>by simp at u,λi k h=>h.elim,λi j k h=>h.elim⟩,λq y=>by simp at y⟩
end Go.Proofs.YtmdlcmbplnhdnaaGreatDoor
namespace Go.Proofs.YtmdlcmbplnhdnaaGreatDoor
open Go Go.Sx
abbrev ahc:=Ec
abbrev PRG:=ByteArray×(List ahc)×(List xP)
abbrev GRF:=List Int×gN
abbrev SCN:=PRG×GRF×Int×bG
abbrev WLK:=SCN×bG×Int×fM
inductive E where
 |lf (o a:Int)
 |un (o:Int) (x:E)
 |ag (o:Int) (x:E)
 |bi (o:Int) (x y:E)
 |ite (x y z:E)
def E.ts:E->fM
 |lf o a=>[(o,a)]
 |un o x=>(o,0)::x.ts
 |ag o x=>(o,0)::x.ts
 |bi o x y=>(o,0)::(x.ts++y.ts)
 |ite x y z=>(43,0)::(x.ts++(y.ts++z.ts))
def E.depth:E->Nat
 |lf _ _=>1
 |un _ x=>x.depth+1
 |ag _ x=>x.depth+1
 |bi _ x y=>max x.depth y.depth+1
 |ite x y z=>max x.depth (max y.depth z.depth)+1
def E.arOk:E->Bool
 |lf o _=>decide (1<=o)&&decide (o<=17)
 |un o x=>decide (18<=o)&&decide (o<=19)&&x.arOk
 |ag o x=>decide (20<=o)&&decide (o<=29)&&x.arOk
 |bi o x y=>decide (30<=o)&&decide (o<=42)&&x.arOk&&y.arOk
 |ite x y z=>x.arOk&&y.arOk&&z.arOk
theorem Sv {b:Type} [Inhabited b] {T a rest:List b} {x:b} {k:Nat} (c:T=a++x::rest) (d:a.length=k):at' T (k:Int)=x:=by
 subst c;exact Uj a rest x k d
theorem fN {k:Nat} (h:k<1000000):wI .i64 ((k:Int)+1)=((k+1:Nat):Int):=by rw[wr (by omega) (by omega)];rfl
theorem V_ (f:Nat) {o:Int} (a:1<=o) (b:o<=43):wU f o=some (if o<=17 then 0 else if o<=29 then 1 else if o<=42 then 2 else 3):=by
 unfold wU yV;rw[if_neg (by omega)];simp only[decide_eq_true_eq];rw[if_neg (by omega)];split
 ·rfl
 ·split
  ·rfl
  ·split<;>rfl
theorem WP {F:Nat} {T c rest:fM} {t:eZ} {k m a:Nat} {b:Nat} (d:T=c++t::rest) (g:c.length=k) (i:k<1000) (n:m<3000) (e:wU F t.1=some ((a:Nat):Int)) (f:a<=3) (j:m+a≠0):
  bJ (lP F T) (b+1) ((k:Int),(m:Int))=if m+a=1 then some (((k+1:Nat):Int))else bJ (lP F T) b (((k+1:Nat):Int),((m+a - 1:Nat):Int)):=by
 have l:k<T.length:=by rw[d];simp;omega
 show lP F T ((k:Int),(m:Int)) (bJ (lP F T) b)=_;unfold lP;dsimp only;rw[if_pos (by omega),cD (by omega),Sv d g,bE e,if_neg (by omega),wr (x:=((a:Nat):Int) - 1) (by omega) (by omega),wr (by omega) (by omega),fN (by omega)];by_cases h:m+a=1
 ·rw[if_pos h,if_pos (by omega)]
 ·rw[if_neg h,if_neg (by omega)];have:(m:Int)+((a:Int) - 1)=((m+a - 1:Nat):Int):=by omega
  rw[this]
theorem aas (F:Nat) (T:fM) (H:T.length<=900):∀(e:E),e.arOk=true->∀(c k m:Nat) (d b:fM),T=d++(e.ts++b)->d.length=k->1<=m->m+2*(e.ts++b).length<=1900->e.ts.length<=c->
  bJ (lP F T) c ((k:Int),(m:Int))=if m=1 then some (((k+e.ts.length:Nat):Int))else bJ (lP F T) (c - e.ts.length) (((k+e.ts.length:Nat):Int),((m - 1:Nat):Int)):=by
 have r:∀{t:eZ} {l b d:fM} {c k m:Nat},T=d++((t::l)++b)->d.length=k->(t::l).length<=c->1<=t.1->t.1<=43->1<=m->m+2*((t::l)++b).length<=1900->∀a:Nat,(if t.1<=17 then 0 else if t.1<=29 then 1 else if t.1<=42 then 2 else 3:Int)=a->a<=3->∃f,c=f+1∧
   bJ (lP F T) c ((k:Int),(m:Int))=if m+a=1 then some (((k+1:Nat):Int))else bJ (lP F T) f (((k+1:Nat):Int),((m+a - 1:Nat):Int)):=by
  intro t l b d c k m n p q v w i j a I B;have A:=congrArg List.length n;simp only[List.length_append,List.length_cons]at A j q;obtain⟨f,rfl⟩:∃f,c=f+1:=⟨c - 1,by omega⟩
  exact⟨f,rfl,WP (rest:=l++b) (by simpa using n) p (by omega) (by omega) (by rw[V_ F v w,I]) B (by omega)⟩
 intro e
 induction e with
 |lf o a=>
  intro g c k m d b n p i j q;simp only[E.arOk,Bool.and_eq_true,decide_eq_true_eq]at g;obtain⟨f,rfl,h⟩:=r (t:=(o,a)) (l:=[]) n p q (by dsimp only;omega) (by dsimp only;omega) i j 0 (by rw[if_pos (by dsimp only;omega)];rfl) (by omega);rw[h];rfl
 |un o x C=>
  intro g c k m d b n p i j q;simp only[E.arOk,Bool.and_eq_true,decide_eq_true_eq]at g;obtain⟨f,rfl,h⟩:=r (t:=(o,0)) (l:=x.ts) n p q (by dsimp only;omega) (by dsimp only;omega) i j 1 (by rw[if_neg (by dsimp only;omega),if_pos (by dsimp only;omega)];rfl) (by omega);simp only[E.ts,List.length_cons]at q j ⊢;rw[h,if_neg (by omega)];have:=C g.2 f (k+1) m (d++[(o,0)]) b (by rw[n];simp[E.ts]) (by simp[p]) i (by simp at j ⊢;omega) (by omega);rw[show m+1 - 1=m by omega,this,show k+1+x.ts.length=k+(x.ts.length+1) by omega,show f+1 - (x.ts.length+1)=f - x.ts.length by omega]
 |ag o x C=>
  intro g c k m d b n p i j q;simp only[E.arOk,Bool.and_eq_true,decide_eq_true_eq]at g;obtain⟨f,rfl,h⟩:=r (t:=(o,0)) (l:=x.ts) n p q (by dsimp only;omega) (by dsimp only;omega) i j 1 (by rw[if_neg (by dsimp only;omega),if_pos (by dsimp only;omega)];rfl) (by omega);simp only[E.ts,List.length_cons]at q j ⊢;rw[h,if_neg (by omega)];have:=C g.2 f (k+1) m (d++[(o,0)]) b (by rw[n];simp[E.ts]) (by simp[p]) i (by simp at j ⊢;omega) (by omega);rw[show m+1 - 1=m by omega,this,show k+1+x.ts.length=k+(x.ts.length+1) by omega,show f+1 - (x.ts.length+1)=f - x.ts.length by omega]
 |bi o x y s u=>
  intro g c k m d b n p i j q;simp only[E.arOk,Bool.and_eq_true,decide_eq_true_eq]at g;obtain⟨f,rfl,h⟩:=r (t:=(o,0)) (l:=x.ts++y.ts) n p q (by dsimp only;omega) (by dsimp only;omega) i j 2 (by rw[if_neg (by dsimp only;omega),if_neg (by dsimp only;omega),if_pos (by dsimp only;omega)];rfl) (by omega);simp only[E.ts,List.length_cons,List.length_append]at q j ⊢;rw[h,if_neg (by omega)];have v:=s g.1.2 f (k+1) (m+1) (d++[(o,0)]) (y.ts++b) (by rw[n];simp[E.ts]) (by simp[p]) (by omega) (by simp at j ⊢;omega) (by omega);have w:=u g.2 (f - x.ts.length) (k+1+x.ts.length) m (d++((o,0)::x.ts)) b (by rw[n];simp[E.ts]) (by simp[p];omega) (by omega) (by simp at j ⊢;omega) (by omega);rw[show m+2 - 1=m+1 by omega,v,if_neg (by omega),show m+1 - 1=m by omega,w,show k+1+x.ts.length+y.ts.length=k+(x.ts.length+y.ts.length+1) by omega,show f+1 - (x.ts.length+y.ts.length+1)=f - x.ts.length - y.ts.length by omega]
 |ite x y z s u D=>
  intro g c k m d b n p i j q;simp only[E.arOk,Bool.and_eq_true,decide_eq_true_eq]at g;obtain⟨f,rfl,h⟩:=r (t:=(43,0)) (l:=x.ts++(y.ts++z.ts)) n p q (by decide) (by decide) i j 3 Z (by omega);simp only[E.ts,List.length_cons,List.length_append]at q j ⊢;rw[h,if_neg (by omega)];have v:=s g.1.1 f (k+1) (m+2) (d++[(43,0)]) (y.ts++z.ts++b) (by rw[n];simp[E.ts]) (by simp[p]) (by omega) (by simp at j ⊢;omega) (by omega);have w:=u g.1.2 (f - x.ts.length) (k+1+x.ts.length) (m+1) (d++((43,0)::x.ts)) (z.ts++b) (by rw[n];simp[E.ts]) (by simp[p];omega) (by omega) (by simp at j ⊢;omega) (by omega);have G:=D g.2 (f - x.ts.length - y.ts.length) (k+1+x.ts.length+y.ts.length) m (d++((43,0)::(x.ts++y.ts))) b (by rw[n];simp[E.ts]) (by simp[p];omega) (by omega) (by simp at j ⊢;omega) (by omega);rw[show m+3 - 1=m+2 by omega,v,if_neg (by omega),show m+2 - 1=m+1 by omega,w,if_neg (by omega),show m+1 - 1=m by omega,G,show k+1+x.ts.length+y.ts.length+z.ts.length=k+(x.ts.length+(y.ts.length+z.ts.length)+1) by omega,show f+1 - (x.ts.length+(y.ts.length+z.ts.length)+1)=f - x.ts.length - y.ts.length - z.ts.length by omega]
theorem adu (F:Nat) (e:E) (d:e.arOk=true) {T b a:fM} {k:Nat} (f:T=b++(e.ts++a)) (i:b.length=k) (j:T.length<=800) (h:e.ts.length<=F):Cu F T (k:Int)=some (((k+e.ts.length:Nat):Int)):=by
 have g:1<=e.ts.length:=by cases e<;>simp[E.ts]
 have c:=congrArg List.length f;simp only[List.length_append]at c;unfold Cu Bw;rw[if_neg (by omega)];simp only[decide_eq_true_eq];rw[if_neg (by omega)];have:=aas F T (by omega) e d F k 1 b a f i (by omega) (by simp;omega) h;rw[if_pos Z]at this;exact this
def AE (b:Bool):Int:=if b then 1 else 0
theorem uC (f:Nat) (b:Bool):iV f b=some (AE b):=by cases b<;>rfl
theorem Ey {a:Type} [Inhabited a] {l:List a} {k:Nat} (h:k<l.length):l.take (k+1)=l.take k++[at' l (k:Int)]:=by
 rw[List.take_add_one,List.getElem?_eq_getElem h,gC,List.getD_eq_getElem?_getD,List.getElem?_eq_getElem h];rfl
theorem lV {a:Type} [Inhabited a] {l:List a} {k:Nat} (h:k<l.length):at' l (k:Int)=l[k]:=by
 rw[gC,List.getD_eq_getElem?_getD,List.getElem?_eq_getElem h];rfl
theorem Gj {p:Nat->Prop}:∀(n:Nat),p n->∃m,m<=n∧p m∧∀j,j<m->¬p j:=by
 intro n
 induction n using Nat.strongRecOn with
 | _ n ih =>
  intro h;by_cases d:∃m,m<n∧p m
  ·obtain⟨m,e,f⟩:=d;obtain⟨k,a,b,c⟩:=ih m e f;exact⟨k,by omega,b,c⟩
  ·exact⟨n,Nat.le_refl n,h,λj g i=>d ⟨j,g,i⟩⟩
theorem Tk {g:Type} [DecidableEq g]:∀(c b:List g),c.Nodup->(∀x∈c,x∈b)->c.length<=b.length
 | [],b,_,_=>Nat.zero_le _
 |a::c,b,h,hs=>by
  have d:=hs a List.mem_cons_self;have h:=List.nodup_cons.1 h;have:=Tk c (b.erase a) h.2 (λx f=>(List.mem_erase_of_ne (fun(e:x=a)=>h.1 (by rw[<-e];exact f))).2 (hs x (List.mem_cons_of_mem _ f)));rw[List.length_erase_of_mem d]at this;have i:0<b.length:=List.length_pos_of_mem d;simp only[List.length_cons];omega
def nz (x:Int):Bool:=decide (x≠0)
theorem WE (f:Nat) (l:aR) (h:l.length<f) (e:l.length<=1000):qG f l=some ((l.countP nz:Nat):Int):=by
 unfold qG;have:=eY (step:=qY l) (K:=some ((l.countP nz:Nat):Int)) l.length (λk=>(((l.take k).countP nz:Nat),(k:Int))) (λk b c=>by
  have d:(l.take k).countP nz<=k:=Nat.le_trans List.countP_le_length (by simp;omega);unfold qY tU;dsimp only;rw[if_pos (by omega),cD (by omega),Ey c,List.countP_append,fN (by omega),fN (by omega)];by_cases a:at' l (k:Int)=0
  ·rw[if_neg (by simpa using a)];simp[nz,a]
  ·rw[if_pos a];simp[nz,a]) (λb=>by
  unfold qY yK;dsimp only;rw[if_neg (by omega),List.take_length]) f h
 exact this
theorem HU (f:Nat) (l:aR) (x:Int) (h:l.length<f) (t:l.length<=1000):rI f l x=some (decide (x∈l)):=by
 have q:∃i:Int,pR f l x=some i∧(0<=i↔x∈l):=by
  by_cases b:x∈l
  ·obtain⟨i,r,o⟩:=List.mem_iff_getElem.1 b;have a:∃i,i<l.length∧at' l (i:Int)=x∧∀j,j<i->at' l (j:Int)≠x:=by
    obtain⟨m,d,c,s⟩:=Gj (p:=λi=>at' l (i:Int)=x) i (by rw[lV r,o]);exact⟨m,by omega,c,s⟩
   obtain⟨i,r,d,c⟩:=a;refine⟨i,?_,iff_of_true (by omega) b⟩
   unfold pR;exact eY (step:=kC l x) (K:=some (i:Int)) i (λk=>(k:Int)) (λk n g=>by
    unfold kC;rw[if_pos (by omega),cD (by omega),if_neg (λe=>c k g e.symm),fN (by omega)]) (λn=>by
    unfold kC;rw[if_pos (by omega),cD (by omega),if_pos d.symm]) f (by omega)
  ·refine⟨-1,?_,iff_of_false (by omega) b⟩
   unfold pR;exact eY (step:=kC l x) (K:=some (-1)) l.length (λk=>(k:Int)) (λk n g=>by
    unfold kC;rw[if_pos (by omega),cD (by omega),if_neg (λe=>b (by rw[e,lV g];exact List.getElem_mem g)),fN (by omega)]) (λn=>by
    unfold kC uU;rw[if_neg (by omega)]) f h
 obtain⟨i,d,c⟩:=q;unfold rI;rw[bE d];by_cases b:x∈l
 ·rw[decide_eq_true b,decide_eq_true (c.2 b)]
 ·rw[decide_eq_false b,decide_eq_false (λe=>b (c.1 e))]
def qE (l:aR):Int:=match l.findIdx? nz with
 |some i=>(i:Int)
 |none=> -1
theorem rW {l:aR} {i:Nat} (a:i<l.length) (b:at' l (i:Int)≠0) (c:∀j,j<i->at' l (j:Int)=0):qE l=i:=by
 have:l.findIdx? nz=some i:=by
  rw[List.findIdx?_eq_some_iff_getElem];refine⟨a,by rw[<-lV a];simpa [nz]using b,λj d=> ?_⟩
  have:=c j d;rw[lV (by omega)]at this;simp[nz,this]
 unfold qE;rw[this]
theorem Bm {l:aR} (h:∀j,j<l.length->at' l (j:Int)=0):qE l = -1:=by
 have:l.findIdx? nz=none:=by
  rw[List.findIdx?_eq_none_iff];intro x b;obtain⟨i,a,rfl⟩:=List.mem_iff_getElem.1 b;have:=h i a;rw[lV a]at this;simp[nz,this]
 unfold qE;rw[this]
theorem Xd (f:Nat) (l:aR) (h:l.length<f) (t:l.length<=1000):m_ f l (λq=>oM f q)=some (qE l):=by
 unfold m_;by_cases a:∃i,i<l.length∧at' l (i:Int)≠0
 ·obtain⟨i,s,o⟩:=a;obtain⟨m,r,n,b⟩:=Gj (p:=λi=>at' l (i:Int)≠0) i o;have b:∀j,j<m->at' l (j:Int)=0:=λj d=>Decidable.not_not.1 (b j d);rw[rW (by omega) n b];exact eY (step:=fU l _) (K:=some (m:Int)) m (λk=>(k:Int)) (λk c g=>by
   unfold fU oM;rw[if_pos (by omega),cD (by omega),bE Z,if_neg (by simp[b k g]),fN (by omega)]) (λc=>by
   unfold fU oM;rw[if_pos (by omega),cD (by omega),bE Z,if_pos (by simpa using n)]) f (by omega)
 ·have a:∀j,j<l.length->at' l (j:Int)=0:=λj d=>Decidable.not_not.1 λe=>a ⟨j,d,e⟩;rw[Bm a];exact eY (step:=fU l _) (K:=some (-1)) l.length (λk=>(k:Int)) (λk c g=>by
   unfold fU oM;rw[if_pos (by omega),cD (by omega),bE Z,if_neg (by simp[a k g]),fN (by omega)]) (λc=>by
   unfold fU pB;rw[if_neg (by omega)]) f h
def zS (l:aR):Int:=l.foldl min 1073741824
theorem adT (f:Nat) (l:aR) (h:l.length<f) (c:l.length<=1000):bJ (sP l) f ((1073741824:Int),(0:Int))=some (zS l):=by
 exact eY (step:=sP l) (K:=some (zS l)) l.length (λk=>((l.take k).foldl min 1073741824,(k:Int))) (λk a b=>by
  unfold sP;dsimp only;rw[if_pos (by omega),cD (by omega),Ey b,List.foldl_append,fN (by omega)];rfl) (λa=>by
  unfold sP Am;dsimp only;rw[if_neg (by omega),List.take_length];rfl) f h
theorem Nh {l:aR} {x:Int} (h:x∈l):zS l<=x:=by
 have c:∀(l:aR) (a:Int),l.foldl min a<=a∧∀x∈l,l.foldl min a<=x:=by
  intro l
  induction l with
  |nil=>intro a;exact⟨Int.le_refl a,λx b=>by cases b⟩
  |cons y l e=>
   intro a;obtain⟨f,d⟩:=e (min a y);refine⟨by simp only[List.foldl_cons];omega,λx b=> ?_⟩
   rcases List.mem_cons.1 b with rfl|b
   ·simp only[List.foldl_cons];omega
   ·exact d x b
 exact(c l _).2 x h
theorem Ki (l:aR):zS l=1073741824∨zS l∈l:=by
 have b:∀(l:aR) (a:Int),l.foldl min a=a∨l.foldl min a∈l:=by
  intro l
  induction l with
  |nil=>intro a;exact .inl Z
  | cons y l ih =>
   intro a;rcases ih (min a y)with h|h
   ·simp only[List.foldl_cons,h];rcases Int.le_total a y with q|q
    ·left;omega
    ·right;rw[show min a y=y by omega];exact List.mem_cons_self
   ·right;exact List.mem_cons_of_mem _ h
 exact b l _
def OY (l:aR):Nat->Nat->Nat
 |0,k=>k
 |f+1,k=>if((k:Nat):Int)∈l then OY l f (k+1)else k
def Rz (l:aR):Nat:=OY l (l.length+1) 0
theorem XO (l:aR):((Rz l:Nat):Int)∉l∧(∀j,j<Rz l->((j:Nat):Int)∈l)∧Rz l<=l.length:=by
 have key:∀(f k:Nat),(∀j,j<k->((j:Nat):Int)∈l)->(∀j,j<OY l f k->((j:Nat):Int)∈l)∧(OY l f k=k+f∨((OY l f k:Nat):Int)∉l):=by
  intro f
  induction f with
  |zero=>intro k h;exact⟨h,.inl Z⟩
  | succ f ih =>
   intro k h;by_cases hk:((k:Nat):Int)∈l
   ·have:=ih (k+1) (λj hj=>by
     rcases Nat.lt_or_ge j k with q|q
     ·exact h j q
     ·rw[show j=k by omega];exact hk)
    simp only[OY,if_pos hk];exact⟨this.1,this.2.imp (λe=>by omega) id⟩
   ·simp only[OY,if_neg hk];exact⟨h,.inr hk⟩
 have hle:∀m,(∀j,j<m->((j:Nat):Int)∈l)->m<=l.length:=λm h=>by
  have:=Tk ((List.range m).map λj=>((j:Nat):Int)) l (by
   rw[List.nodup_iff_pairwise_ne,List.pairwise_map];exact(List.nodup_iff_pairwise_ne.1 List.nodup_range).imp (λh e=>h (by omega))) (λx hx=>by
   obtain⟨j,hj,rfl⟩:=List.mem_map.1 hx;exact h j (List.mem_range.1 hj))
  simpa using this
 obtain⟨h1,h2⟩:=key (l.length+1) 0 (λj hj=>by omega);have h3:=hle _ h1;refine⟨?_,h1,h3⟩
 rcases h2 with h2|h2
 ·have:OY l (l.length+1) 0<=l.length:=h3;omega
 ·exact h2
theorem adS (f:Nat) (l:aR) (h:l.length+2<f) (hl:l.length<=900):AM f l=some ((Rz l:Nat):Int):=by
 obtain⟨h1,h2,h3⟩:=XO l;unfold AM;exact eY (step:=zB f l) (K:=some ((Rz l:Nat):Int)) (Rz l) (λk=>(k:Int)) (λk ag hk=>by
  unfold zB;rw[bE (HU f l (k:Int) (by omega) (by omega)),if_pos (by simpa using h2 k hk),fN (by omega)]) (λag=>by
  unfold zB Bl;rw[bE (HU f l _ (by omega) (by omega)),if_neg (by simpa using h1)]) f (by omega)
def abp (l:aR):Int:=l.foldl (λa x=>wI .i64 (a+x)) 0
theorem ael (f:Nat) (l:aR) (h:l.length<f) (c:l.length<=1000):bJ (sQ f l) f ((0:Int),(0:Int))=Cn f (abp l):=by
 refine(eY (step:=sQ f l) l.length (λk=>(abp (l.take k),(k:Int))) (λk a b=> ?_) (λa=> ?_) f h).trans Z
 ·unfold sQ;dsimp only;rw[if_pos (by omega),cD (by omega),fN (by omega),Ey b];unfold abp;rw[List.foldl_append];rfl
 ·unfold sQ;dsimp only;rw[if_neg (by omega),List.take_length]
def SU (o:Int) (l:aR):Int:=
 if o=20 then AE (l.all nz)else if o=21 then AE (l.any nz)else if o=22 then((l.countP nz:Nat):Int)else if o=23 then qE l else if o=24 then zS l else if o=26 then max (-1073741824) (min (abp l) 1073741824)else((Rz l:Nat):Int)
theorem aaA (f:Nat) (o:Int) (l:aR) (hf:40<=f) (hl:l.length<=24) (ho:o=20∨o=21∨o=22∨o=23∨o=24∨o=26∨o=27):Bp f o l=some (SU o l):=by
 have hc:=WE f l (by omega) (by omega);unfold Bp;rcases ho with rfl|rfl|rfl|rfl|rfl|rfl|rfl
 ·rw[if_pos Z,bE hc,bE (uC f _),SU,if_pos Z];have:(decide (((l.countP nz:Nat):Int)=(l.length:Int)))=l.all nz:=by
   rw[Bool.eq_iff_iff];simp[List.countP_eq_length,Int.ofNat_inj]
  rw[this]
 ·rw[if_neg (by decide),if_pos Z,bE hc,bE (uC f _),SU,if_neg (by decide),if_pos Z];have:(decide ((0:Int)<((l.countP nz:Nat):Int)))=l.any nz:=by
   rw[Bool.eq_iff_iff,decide_eq_true_eq,List.any_eq_true,show((0:Int)<((l.countP nz:Nat):Int))↔0<l.countP nz by omega,List.countP_pos_iff]
  rw[this]
 ·rw[if_neg (by decide),if_neg (by decide),if_pos Z,bE hc];rfl
 ·rw[if_neg (by decide),if_neg (by decide),if_neg (by decide),if_pos Z,bE (Xd f l (by omega) (by omega))];rfl
 ·rw[if_neg (by decide),if_neg (by decide),if_neg (by decide),if_neg (by decide),if_pos Z,adT f l (by omega) (by omega)];rfl
 ·rw[if_neg (by decide),if_neg (by decide),if_neg (by decide),if_neg (by decide),if_neg (by decide),if_neg (by decide),if_pos Z,ael f l (by omega) (by omega)];rfl
 ·rw[if_neg (by decide),if_neg (by decide),if_neg (by decide),if_neg (by decide),if_neg (by decide),if_neg (by decide),if_neg (by decide),if_pos Z,bE (adS f l (by omega) (by omega))];rfl
end Go.Proofs.YtmdlcmbplnhdnaaGreatDoor
namespace Go.Proofs.YtmdlcmbplnhdnaaGreatDoor
open Go.Sx
def uV  (a:bG):Option bG:=
 some (a)
def zX (a:bG×Int) (c:(bG×Int)->Option bG) (b:aR):Option bG:=
 ck ((List.length a.1:Int)+(List.length ([b]):Int)<=1099511627) (c ((a.1++[b]),(wI .i64 (a.2+(1:Int)))))
def nZ (U:Nat) (g:Ig) (h:aR) (e:bG×Int) (a:aR×Int) (c:(aR×Int)->Option bG) (b:eZ):Option bG:=
 Option.bind (sD U h (wI .i64 ((wI .i64 (e.2*(List.length g:Int)))+a.2))) λf=>(Option.bind (gX U f (wI .i64 ((wI .i64 (b.2 - b.1))+(1:Int)))) λd=>(ck ((List.length a.1:Int)+(List.length ([(wI .i64 (b.1+d))]):Int)<=1099511627) (c ((a.1++([(wI .i64 (b.1+d))])),(wI .i64 (a.2+(1:Int)))))))
def n_ (U:Nat) (f:cQ) (c:Ig) (g:aR) (h:Int) (b:bG×Int) (e:(bG×Int)->Option bG) (a:aR×Int) (d:(aR×Int)->Option bG):Option bG:=
 if a.2<(List.length c:Int)then(ck (0<=a.2∧a.2<(List.length c:Int)) (ck (0<=a.2∧a.2<(List.length c:Int)) (ck (0<=a.2∧a.2<(List.length c:Int)) (ck (0<=a.2∧a.2<(List.length c:Int)) (ck (0<=a.2∧a.2<(List.length c:Int)) (if((at' c a.2).2.1)=(2:Int)then(nZ U c g b a d ((0:Int),(1:Int)))else(if((at' c a.2).2.1)=(3:Int)then(ck (0<=b.2∧b.2<(List.length f.2:Int)) (nZ U c g b a d ((-1:Int),(wI .i64 ((List.length (at' f.2 b.2):Int) - (1:Int))))))else(nZ U c g b a d (((at' c a.2).2.2.1),(wI .i64 ((wI .i64 (((at' c a.2).2.2.2.1)+(wI .i64 (((at' c a.2).2.2.2.2.1)*(List.length f.2:Int)))))+(wI .i64 (((at' c a.2).2.2.2.2.2)*h)))))))))))))else(zX b e (a.1))
def kD (U:Nat) (c:cQ) (e:Ig) (f:aR) (d:Int) (a:bG×Int) (b:(bG×Int)->Option bG):Option bG:=
 if a.2<(List.length c.2:Int)then(bJ (n_ U c e f d a b) U (([]:aR),(0:Int)))else(uV  (a.1))
def qU (U:Nat) (b:cQ) (c:Ig) (d:aR) (a:Int):Option bG:=
 bJ (kD U b c d a) U (([]:bG),(0:Int))
def uW (U:Nat) (c:cQ) (d:Ig) (e:aR) (a:eZ) (b:iH->Option bG):Option bG:=
 if a.2<(List.length c.2:Int)then(ck (0<=a.2∧a.2<(List.length c.1:Int)) (b ((max a.1 (at' c.1 a.2)),(wI .i64 (a.2+(1:Int))))))else(qU U c d e (a.1))
def nA (U:Nat) (a:cQ) (b:Ig) (c:aR):Option bG:=
 bJ (uW U a b c) U ((0:Int),(0:Int))
theorem acy:aW Tryz.prog 11:=Tryz.call11
theorem KD (U:Nat) {g:cQ} {n:Ig} {s:aR} (v:Value)  (w:Value)  (z2:lX)  (F:Value)  (y:Value) (r:bG) (h:nA U g n s=some r):
  aX Tryz.prog 11 #[Value.agg #[v,w],F,y] [Sl bN v g.1,S2 bD w z2 g.2,Sl aT F n,Sl bN y s] (λx:KH=>x.1) (λx l=>Ar cY.raw x.1 x.2::kX cC x.2 r::l) (λ_ l=>l):=by
 refine aX.of Tryz.func11 Z Tryz.ntmps11 Z λc=>?_;unfold nA at h;refine aV<|aH (aM.box (cs:=[v,w]) Z Z) Z λp=>aD Z<|aL<|aV<|bS Z<|dC 0 Z<|aB (iY Z (aE.fact 1 Z) Z) Z<|aD Z<|aD Z<|aL<|aJ<|dR (λk=>qU U g n s k=some r) (λk b4=>[(1,F),(2,y),(3,vP p),(7,vI (List.length g.2:Int)),(8,vI (k))]) (λk b4=>[bU p [v,w] 29]) ?_ ?_
 ·refine aV<|aD Z<|aL<|aS<|dU (uW U g n s) (λi J=>[(1,F),(2,y),(3,vP p),(7,vI (List.length g.2:Int)),(8,vI (i.1)),(9,vI (i.2))]) (λi J=>[bU p [v,w] 29]) ((0:Int),(0:Int)) () h SF (a_.refl _) ?_;intro ac i J h;refine aJ<|aV<|aA Z<|aA Z<|cM Z<|aL ?_;refine eX h Z (λh=>?_) λh=>?_
  ·refine cK<|aJ<|aS<|aO<|aA Z<|bS Z<|dC 0 Z<|aA Z<|cX h λQ h=>aB (aY Z Z (aE.fact 0 Z) Z Z Q) Z<|aB (bV Z (aE.fact 0 Z) Z Z Z dA Q) Z<|aB (Lh Z Z) Z<|aD Z<|eJ<|mI<|aO<|aA Z<|cJ Z<|aD Z<|aL ?_;exact xY ((max i.1 (at' g.1 i.2)),(wI .i64 (i.2+(1:Int)))) () h SF Z
  refine fC ?_;exact gY (i.1) () h SF Z
 intro k b4 h;unfold qU at h;refine aV<|aD Z<|aL<|aJ<|DG (B:=KH) (λH=>uV  H=some r) (λH A=>[(10,A.1)]) (λH A=>[Ar cY.raw A.1 A.2,kX cC A.2 H]) ?_ ?_
 ·refine aV<|aD Z<|aL<|aS<|iS (gJ cY.raw) (iS (Dm cC) ?_);refine dU (B:=KH) (kD U g n s k) (λb a=>[(1,F),(2,y),(3,vP p),(7,vI (List.length g.2:Int)),(8,vI (k)),(10,a.1),(11,vI (b.2))]) (λb a=>[bU p [v,w] 29,Ar cY.raw a.1 a.2,kX cC a.2 b.1]) (([]:bG),(0:Int)) ((k_),([]:fV)) h SF (a_.ix [2,1,0] Z Z) ?_;intro G b a h;refine aJ<|aV<|aA Z<|aA Z<|cM Z<|aL ?_;refine eX h Z (λh=>?_) λh=>?_
  ·refine cK<|aJ<|aS<|aV<|aD Z<|aL<|aJ<|DG (B:=Value) (λo=>zX b (bJ (kD U g n s k) G) o=some r) (λo j=>[(1,F),(2,y),(3,vP p),(7,vI (List.length g.2:Int)),(8,vI (k)),(10,a.1),(11,vI (b.2)),(12,j)]) (λo j=>[bU p [v,w] 29,Ar cY.raw a.1 a.2,kX cC a.2 b.1,Ar cC j o]) ?_ ?_
   ·refine aV<|aD Z<|aL<|aS<|iS (gJ cC)<|dU (B:=Value) (n_ U g n s k b (bJ (kD U g n s k) G)) (λd m=>[(1,F),(2,y),(3,vP p),(7,vI (List.length g.2:Int)),(8,vI (k)),(10,a.1),(11,vI (b.2)),(12,m),(13,vI (d.2))]) (λd m=>[bU p [v,w] 29,Ar cY.raw a.1 a.2,kX cC a.2 b.1,Ar cC m d.1]) (([]:aR),(0:Int)) (k_) h SF (a_.ix [1,2,3,0] Z Z) ?_;intro S d m h;refine aJ<|aV<|aA Z<|aA Z<|kB (aE.fact 2 Z) Z<|cM Z<|aL ?_;refine eX h Z (λh=>?_) λh=>?_
    ·refine cK<|aJ<|aS<|aJ ?_;refine JR.start [0,0,3,7,15,0,0,96,224,480,0,0,3072,7168,15360,0,64512,131040,0,0,786432,1835008,3932160,0,16515072,33554400,31,134217727] 27 mixedOrders (by decide +kernel) ?_;refine JR.open (by exact rfl) ?_;refine bH Z<|bH Z<|cX h λL h=>bL Z .nil (lR 2 Z) (aY Z Z (aE.fact 0 Z) Z Z L) aP.z<|iF Z (fQ Z Z Z Z Z)<|bL Z .nil (lR 2 Z) (jN Z (aE.fact 0 Z) Z Z Z Db L) aP.z<|bH Z<|bH Z<|cX h λM h=>bL Z .nil (lR 2 Z) (aY Z Z (aE.fact 0 Z) Z Z M) aP.z<|iF Z (fQ Z Z Z Z Z)<|bL Z .nil (lR 2 Z) (jN Z (aE.fact 0 Z) Z Z Z Dc M) aP.z<|bH Z<|bH Z<|cX h λN h=>bL Z .nil (lR 2 Z) (aY Z Z (aE.fact 0 Z) Z Z N) aP.z<|iF Z (fQ Z Z Z Z Z)<|bL Z .nil (lR 2 Z) (jN Z (aE.fact 0 Z) Z Z Z Dd N) aP.z<|bH Z<|iF Z (zL Z Z)<|iF Z (vA Z Z)<|bH Z<|bH Z<|cX h λO h=>bL Z .nil (lR 2 Z) (aY Z Z (aE.fact 0 Z) Z Z O) aP.z<|iF Z (fQ Z Z Z Z Z)<|bL Z .nil (lR 2 Z) (jN Z (aE.fact 0 Z) Z Z Z De O) aP.z<|bH Z<|iF Z (zL Z Z)<|iF Z (vA Z Z)<|iF Z (lY Z)<|bP 27 Z Z<|aD Z<|aL<|aJ<|dR (λf=>nZ U n s b d (bJ (n_ U g n s k b (bJ (kD U g n s k) G)) S) f=some r) (λf I=>[(1,F),(2,y),(3,vP p),(7,vI (List.length g.2:Int)),(8,vI (k)),(10,a.1),(11,vI (b.2)),(12,m),(13,vI (d.2)),(14,vI (f.1)),(15,vI (f.2))]) (λf I=>[bU p [v,w] 29,Ar cY.raw a.1 a.2,kX cC a.2 b.1,Ar cC m d.1]) ?_ ?_
     ·refine aV<|aA Z<|aA Z<|cX h λP h=>aB (aY Z Z (aE.fact 2 Z) Z Z P) Z<|aB (fQ Z Z Z Z Z) Z<|aB (jN Z (aE.fact 2 Z) Z Z Z xQ P) Z<|aL<|aS<|aV<|cP Z<|aD Z<|aL ?_;refine eX h Z (λh=>?_) λh=>?_
      ·refine aO<|aD Z<|aD Z<|eJ<|mI ?_;exact gY ((0:Int),(1:Int)) () h SF Z
      refine aV<|cP Z<|aD Z<|aL ?_;refine eX h Z (λh=>?_) λh=>?_
      ·refine JR.start [0,1,0,7,15,31,63,0,255] 8 mixedOrders (by decide +kernel) ?_;refine JR.open (by exact rfl) ?_;refine dB Z<|jQ 0 Z<|bH Z<|cX h λu h=>bL Z .nil (lR 1 Z) (cA Z Z (aE.fact 0 Z) Z Z u) aP.z<|bL Z .nil (lR 1 Z) (cF Z (aE.fact 0 Z) Z Z u) aP.z<|bL Z .nil (lR 1 Z) (fW Z (aE.el (aE.fact 0 Z) u.1 u.2) Z) aP.z<|iF Z (lA Z Z)<|iF Z (lY Z)<|bP 8 Z Z<|aD Z<|eJ<|mI ?_;exact gY ((-1:Int),(wI .i64 ((List.length (at' g.2 b.2):Int) - (1:Int)))) () h SF Z
      refine dL<|mI ?_;exact gY (((at' n d.2).2.2.1),(wI .i64 ((wI .i64 (((at' n d.2).2.2.2.1)+(wI .i64 (((at' n d.2).2.2.2.2.1)*(List.length g.2:Int)))))+(wI .i64 (((at' n d.2).2.2.2.2.2)*k))))) () h SF Z
     intro f I h;refine aO<|aA Z<|aA Z<|aA Z<|aA Z<|aA Z<|kB (aE.fact 2 Z) Z<|aB (zL Z Z) Z<|aA Z<|cJ Z<|fH h λW aa h=>aH (aM.callQ Jx (AZ U y W aa) Z (pO [3] Z)) Z λaf=>aA Z<|aA Z<|aB (lA Z Z) Z<|cJ Z<|fH h λt ab h=>aH (aM.callQ Dt (lO U  t ab) Z .nil) Z λag=>cJ Z<|aH (bW (e:=cC) ([(wI .i64 (f.1+t))]) [(0,vI (wI .i64 (f.1+t)))] Z Z Z Z (mR (vI (wI .i64 (f.1+t))) Z) Z Z Z) Z λae=>cX h λR h=>aH (eO 4 dM Z Z Z (bB (aE.res 0 Z) dM) Z Z Z Z R Z) Z λY=>aD Z<|eJ<|mI<|aO<|aA Z<|cJ Z<|aD Z<|aL ?_;exact mL ((d.1++([(wI .i64 (f.1+t))])),(wI .i64 (d.2+(1:Int)))) (Y) h SF (a_.ix [1,2,3,4] Z Z) (aF.refl _ _)
    refine fC ?_;exact gY (d.1) (m) h SF Z
   intro o j h;refine aO<|aA Z<|aA Z<|iS (Dm cC)<|bZ (Know.one ((bB (aE.res 4 Z) dM))) λE=>iS (QJ 0 4 Z Z Z) ?_;refine aH (bW (e:=cY.raw) [j] [(0,j)] Z Z Z Z (mR (j) E) Z Z (by simp[cellsOf,cY.raw,E])) Z λad=>?_;refine bZ (c_ 4 Z) λC=>bZ (c_ 1 Z) λD=>cX h λK h=>iS (Og 4 1 Z Z Z) ?_;refine aH (aM.append 2 0 Z Z Z Z Z Z Z (by have q:=K;have T:=C;have V:=D;(try simp only[List.length_cons,List.length_nil]at q T V ⊢);omega) (by have q:=K;have T:=C;have V:=D;(try simp only[List.length_cons,List.length_nil]at q T V ⊢);omega) Z) Z λX=>?_;refine aD Z<|eJ<|mI<|aO<|aA Z<|cJ Z<|aD Z<|aL ?_;exact mL ((b.1++[o]),(wI .i64 (b.2+(1:Int)))) (X,(a.2++[j])) h SF (a_.ix [1,2,3] Z Z) (aF.refl _ _)
  refine fC ?_;exact cH (b.1) (a.1,a.2) h SF (a_.ix [1,2] Z Z) (aF.refl _ _)
 intro H A h;unfold uV at h;refine aV<|aA Z<|aD Z<|aL<|aU ?_;cases h;exact iB (A.1,A.2) Z Z (RV.tmp Z) (a_.refl _) aF.nil
def As  (a:Int):Option (Int):=
 some (a)
def Au (a:eZ) (c:iH->Option (Int)) (b:Bool):Option (Int):=
 if b=true then(ck (0<=(wI .u64 a.2)) (c ((FX .u32 a.1 (vC .u32 (1:Int) (wI .u64 a.2))),(wI .i64 (a.2+(1:Int))))))else(As  (a.1))
def Av (c:Int) (b:eZ) (a:iH->Option (Int)):Option (Int):=
 if b.2<c then(Au b a (decide (b.2<(32:Int))))else(Au b a (false))
def vO (U:Nat) (a:Int):Option (Int):=
 bJ (Av a) U ((0:Int),(0:Int))
theorem acA:aW Tryz.prog 15:=Tryz.call15
theorem PO (U:Nat) {d:Int} (r:Int) (h:vO U d=some r):
  aX Tryz.prog 15 #[vI (d)] [] (λx:Unit=>vU (r)) (λx l=>l) (λ_ l=>l):=by
 refine aX.of Tryz.func15 Z Tryz.ntmps15 Z λc=>?_;unfold vO at h;refine aV<|aD Z<|aL<|aV<|aD Z<|aL<|aJ<|dR (λe=>As  e=some r) (λe i=>[(3,vU (e))]) (λe i=>[]) ?_ ?_
 ·refine aV<|aD Z<|aL<|aS<|dU (Av d) (λa j=>[(0,vI (d)),(3,vU (a.1)),(4,vI (a.2))]) (λa j=>[]) ((0:Int),(0:Int)) () h SF (a_.refl _) ?_;intro k a j h;refine aJ<|aJ<|dR (λb=>Au a (bJ (Av d) k) b=some r) (λb f=>[(0,vI (d)),(3,vU (a.1)),(4,vI (a.2)),(11,vB (b))]) (λb f=>[]) ?_ ?_
  ·refine aO<|aA Z<|aA Z<|cM Z<|aA Z ?_;refine Dg h Z (λ_ h=>?_) λ_ h=>?_
   ·refine cO Z<|aN Z (EK Z Z) Z<|dV Z<|aL ?_;exact gY (decide (a.2<(32:Int))) () h SF Z
   refine aG Z<|aG Z<|fK Z<|aL ?_;exact gY (false) () h SF Z
  intro b f h;refine Ai h Z (λ_ h=>?_) λ_ h=>?_
  ·refine cK<|aJ<|aS<|aO<|aA Z<|aA Z<|aB (Fg Z Z Z) Z<|cX h λg h=>aB (HR Z Z g) Z<|aB (QL Z Z) Z<|aD Z<|eJ<|mI<|aO<|aA Z<|cJ Z<|aD Z<|aL ?_;exact xY ((FX .u32 a.1 (vC .u32 (1:Int) (wI .u64 a.2))),(wI .i64 (a.2+(1:Int)))) () h SF Z
  refine fC ?_;exact gY (a.1) () h SF Z
 intro e i h;unfold As at h;refine aV<|aA Z<|aD Z<|aL<|aU ?_;cases h;exact kH Z
def tE (b:cQ) (a:gN):Option tA:=
 some ((b.1,a))
def lZ (U:Nat) (b:Di) (d:cQ) (a:Int×gN) (c:(Int×gN)->Option tA) (e:Bool):Option tA:=
 if e=true then(ck (0<=a.1∧a.1<(List.length b.2.1:Int)) (Option.bind (gX U (at' b.2.1 a.1) (List.length d.2:Int)) λf=>(ck (0<=(wI .i64 (a.1+(1:Int)))∧(wI .i64 (a.1+(1:Int)))<(List.length b.2.1:Int)) (Option.bind (gX U (at' b.2.1 (wI .i64 (a.1+(1:Int)))) (List.length d.2:Int)) λg=>(Option.bind (sD U b.2.2.1 a.1) λh=>(Option.bind (gX U h (15:Int)) λi=>(Option.bind (mX U ((b.1,b.2.1,b.2.2.1,b.2.2.2.1,b.2.2.2.2.1,b.2.2.2.2.2)) ((d.1,a.2)) f g (wI .i64 ((1:Int)+i))) λj=>(c ((wI .i64 (a.1+(2:Int))),j)))))))))else(tE d (a.2))
def oV (U:Nat) (c:Di) (d:cQ) (a:Int×gN) (b:(Int×gN)->Option tA):Option tA:=
 if(wI .i64 (a.1+(1:Int)))<(List.length c.2.1:Int)then(lZ U c d a b (decide (a.1<(60:Int))))else(lZ U c d a b (false))
def mY (U:Nat) (b:Di) (a:cQ):Option tA:=
 bJ (oV U b a) U ((List.length a.2:Int),a.2)
theorem acD:aW Tryz.prog 25:=Tryz.call25
theorem FA (U:Nat) {a:Di} {e:cQ} (n:Value)  (m:Value)  (o:Value)  (f:Value)  (g:Value)  (O:fV) (r:EW) (h:mY U a e=some r):
  E_ Tryz.prog 25 #[Value.agg #[vI (a.1),n,m,o,vB (a.2.2.2.2.1),vB (a.2.2.2.2.2)],Value.agg #[f,g]] [Ar cC f e.1,Ar cY.raw g O,kX b_ O e.2] [Sl bN n a.2.1,Sl bN m a.2.2.1,Sl bN o a.2.2.2.1] (λx:Value×Value×List Value=>Value.agg #[x.1,x.2.1]) (λx l=>Ar cC x.1 r.1::Ar cY.raw x.2.1 x.2.2::kX b_ x.2.2 r.2::l):=by
 refine E_.of (vs:=[Value.agg #[vI (a.1),n,m,o,vB (a.2.2.2.2.1),vB (a.2.2.2.2.2)],Value.agg #[f,g]]) Tryz.func25 Z Tryz.ntmps25 Z λc=>?_;unfold mY at h;refine aV<|aH (aM.box (cs:=[vI (a.1),n,m,o,vB (a.2.2.2.2.1),vB (a.2.2.2.2.2)]) Z Z) Z λv=>aH (aM.box (cs:=[f,g]) Z Z) Z λq=>aH (aM.alloc (cs:=[k_,k_]) Z Z) Z λs=>aL<|aV<|bS Z<|dC 1 Z<|aB (iY Z (bO (i:=4) (j:=5) Z Z bQ) Z) Z<|aD Z<|aL<|aJ<|Ca (B:=fV) (λt=>tE e t=some r) (λt u=>[(3,vP q),(4,vP s)]) (λt u=>[bU s [k_,k_] 29,bU q [f,g] 29,Ar cC f e.1,Ar cY.raw g u,kX b_ u t]) (λt u=>[Sl bN n a.2.1,Sl bN m a.2.2.1,Sl bN o a.2.2.2.1]) ?_ ?_
 ·refine aV<|aA Z<|aD Z<|aL<|aS<|FK (B:=fV) (oV U a e) (λb d=>[(2,vP v),(3,vP q),(4,vP s),(5,vI (List.length e.2:Int)),(6,vI (b.1))]) (λb d=>[bU s [k_,k_] 29,bU q [f,g] 29,bU v [vI (a.1),n,m,o,vB (a.2.2.2.2.1),vB (a.2.2.2.2.2)] 24,Ar cC f e.1,Ar cY.raw g d,kX b_ d b.2]) (λb d=>[Sl bN n a.2.1,Sl bN m a.2.2.1,Sl bN o a.2.2.2.1]) ((List.length e.2:Int),e.2) (O) h SF (a_.refl _) (aF.refl _ _) ?_;intro J b d h;refine aJ<|aJ<|Ca (B:=Unit) (λk=>lZ U a e b (bJ (oV U a e) J) k=some r) (λk p=>[(2,vP v),(3,vP q),(4,vP s),(5,vI (List.length e.2:Int)),(6,vI (b.1)),(20,vB (k))]) (λk p=>[bU s [k_,k_] 29,bU q [f,g] 29,bU v [vI (a.1),n,m,o,vB (a.2.2.2.2.1),vB (a.2.2.2.2.2)] 24,Ar cC f e.1,Ar cY.raw g d,kX b_ d b.2]) (λk p=>[Sl bN n a.2.1,Sl bN m a.2.2.1,Sl bN o a.2.2.2.1]) ?_ ?_
  ·refine aO<|aA Z<|cJ Z<|bS Z<|dC 2 Z<|kB (aE.fact 0 Z) Z<|cM Z<|aA Z ?_;refine Dg h Z (λ_ h=>?_) λ_ h=>?_
   ·refine cO Z<|aN Z (EK Z Z) Z<|dV Z<|aL ?_;exact gY (decide (b.1<(60:Int))) () h SF Z
   refine aG Z<|aG Z<|fK Z<|aL ?_;exact gY (false) () h SF Z
  intro k p h;refine Ai h Z (λ_ h=>?_) λ_ h=>?_
  ·refine cK<|aJ<|aS ?_;refine JR.start [0,0,0,4,0,28,60,0,252,0,512,0,2048,7680,15872,0,65532,0,131072,0,1048572,2097148,4194300,8388607] 23 mixedOrders (by decide +kernel) ?_;refine JR.open (by exact rfl) ?_;refine pY 2 Z<|pY 1 Z<|dB Z<|jQ 2 Z<|bH Z<|cX h λE h=>bL Z .nil (lR 0 Z) (aY Z Z (aE.fact 0 Z) Z Z E) aP.z<|bL Z .nil (lR 0 Z) (bV Z (aE.fact 0 Z) Z Z Z dA E) aP.z<|bH Z<|fH h λK w h=>JR.loud Z Z Z (aM.callQ Dt (lO U  K w) Z .nil) Z (λP=>(v_ [([1],[]),([2],[])] Z)) λP=>iF Z (dO Z Z Z Z Z)<|bL Z (a_.cons 2 Z .nil) .nil (eW 0 Z Z Z Z Z) (aP.h (a_.ix [2] Z Z) .nil aP.z)<|iF Z (gQ Z)<|iF Z (vA Z Z)<|cX h λF h=>bL Z .nil (lR 0 Z) (aY Z Z (aE.fact 0 Z) Z Z F) (aP.h .nil (lR 0 Z) aP.z)<|bL Z .nil (lR 0 Z) (bV Z (aE.fact 0 Z) Z Z Z dA F) (aP.h .nil (lR 0 Z) aP.z)<|iF Z (gQ Z)<|fH h λL y h=>JR.loud Z Z Z (aM.callQ Dt (lO U  L y) Z .nil) Z (λQ=>(v_ [([1],[]),([2],[])] Z)) λQ=>iF Z (dO Z Z Z Z Z)<|bL Z (a_.cons 2 Z .nil) .nil (eW 0 Z Z Z Z Z) (aP.h (a_.ix [2] Z Z) .nil (aP.h (a_.ix [2] Z Z) .nil aP.z))<|iF Z (gQ Z)<|fH h λM A h=>JR.loud Z Z Z (aM.callQ Jx (AZ U m M A) Z (pO [1] Z)) Z (λR=>(v_ [([1],[]),([2],[])] Z)) λR=>fH h λN C h=>JR.loud Z Z Z (aM.callQ Dt (lO U  N C) Z .nil) Z (λS=>(v_ [([1],[]),([2],[])] Z)) λS=>iF Z (vA Z Z)<|bP 23 Z Z<|fH h λG D h=>aH (EZ (Min:=[Ar cY.raw g d,kX b_ d b.2]) (Mr:=[bU s [k_,k_] 29,bU q [f,g] 29,bU v [vI (a.1),n,m,o,vB (a.2.2.2.2.1),vB (a.2.2.2.2.2)] 24,Ar cC f e.1]) Wn (AV U n m o f g d G D) Z (a_.ix [4,5,0,1,2,3] Z Z) (aF.cons (aE.fact 0 Z) (aF.cons (aE.fact 1 Z) (aF.cons (aE.fact 2 Z) (aF.cons (bB (aE.res 3 Z) dM) .nil)))) (λ_ _=>rfl)) Z λT=>eJ<|mI<|aO<|aA Z<|cJ Z<|aD Z<|aL ?_;exact mL ((wI .i64 (b.1+(2:Int))),G) (T) h SF (a_.ix [2,3,4,5,0,1] Z Z) (aF.refl _ _)
  refine fC ?_;exact cH (b.2) (d) h SF (a_.ix [0,1,3,4,5] Z Z) (aF.refl _ _)
 intro t u h;unfold tE at h;refine aV<|eT 1 Z<|bZ (Know.one ((bB (aE.res 2 Z) dM))) λH=>bZ (Know.one (aE.sl (bO (i:=3) (j:=4) Z Z bQ))) λI=>bT 0 (vs:=[f,g]) Z Z (kY H (kY I Z)) Z Z Z<|aL<|aU ?_;cases h;exact iB (f,g,u) Z Z (RV.cell 0 Z Z Z Z) (a_.ix [2,3,4] Z Z) aF.nil
def rJ  (a:Int):Option (Int):=
 some (a)
def xC (b:aR) (a:eZ) (c:iH->Option (Int)):Option (Int):=
 if a.2<(List.length b:Int)then(ck (0<=a.2∧a.2<(List.length b:Int)) (if(at' b a.2)<(0:Int)then(some (-1:Int))else(ck (0<=a.2∧a.2<(List.length b:Int)) (c ((max a.1 (at' b a.2)),(wI .i64 (a.2+(1:Int))))))))else(rJ  (a.1))
def pP (U:Nat) (a:aR):Option (Int):=
 bJ (xC a) U ((-1:Int),(0:Int))
theorem acE:aW Tryz.prog 27:=Tryz.call27
theorem HG (U:Nat) {f:aR} (g:Value) (r:Int) (h:pP U f=some r):
  aX Tryz.prog 27 #[g] [Sl bN g f] (λx:Unit=>vI (r)) (λx l=>l) (λ_ l=>l):=by
 refine aX.of Tryz.func27 Z Tryz.ntmps27 Z λc=>?_;unfold pP at h;refine aV<|aD Z<|aL<|aV<|aD Z<|aL<|aJ<|dR (λb=>rJ  b=some r) (λb i=>[(3,vI (b))]) (λb i=>[]) ?_ ?_
 ·refine aV<|aD Z<|aL<|aS<|dU (xC f) (λa j=>[(0,g),(3,vI (a.1)),(4,vI (a.2))]) (λa j=>[]) ((-1:Int),(0:Int)) () h SF (a_.refl _) ?_;intro k a j h;refine aJ<|aV<|aA Z<|aA Z<|kB (aE.fact 0 Z) Z<|cM Z<|aL ?_;refine eX h Z (λh=>?_) λh=>?_
  ·refine cK<|aJ<|aS<|aJ<|aV<|aA Z<|aA Z<|cX h λd h=>aB (aY Z Z (aE.fact 0 Z) Z Z d) Z<|aB (bV Z (aE.fact 0 Z) Z Z Z dA d) Z<|cM Z<|aL ?_;refine eX h Z (λh=>?_) λh=>?_
   ·refine aV<|aD Z<|aL<|aU<|aI<|bK<|aI<|aI<|bK<|aI ?_;cases h;exact kH Z
   refine cK<|aO<|aA Z<|aA Z<|aA Z<|cX h λe h=>aB (aY Z Z (aE.fact 0 Z) Z Z e) Z<|aB (bV Z (aE.fact 0 Z) Z Z Z dA e) Z<|aB (Lh Z Z) Z<|aD Z<|eJ<|mI<|aO<|aA Z<|cJ Z<|aD Z<|aL ?_;exact xY ((max a.1 (at' f a.2)),(wI .i64 (a.2+(1:Int)))) () h SF Z
  refine fC ?_;exact gY (a.1) () h SF Z
 intro b i h;unfold rJ at h;refine aV<|aA Z<|aD Z<|aL<|aU ?_;cases h;exact kH Z
def zF  (a:Bool):Option (Bool):=
 some (a)
def sB (U:Nat) (a:Int) (b:Int) (c:Int):Option (Bool):=
 if b<=a then(zF  (decide (a<=c)))else(zF  (false))
theorem Jy:aW Tryz.prog 49:=Tryz.call49
theorem AY (U:Nat) {b:Int} {f:Int} {d:Int} (r:Bool) (h:sB U b f d=some r):
  aX Tryz.prog 49 #[vI (b),vI (f),vI (d)] [] (λx:Unit=>vB (r)) (λx l=>l) (λ_ l=>l):=by
 refine aX.of Tryz.func49 Z Tryz.ntmps49 Z λc=>?_;refine aV<|aD Z<|aL<|aJ<|dR (λa=>zF  a=some r) (λa e=>[(6,vB (a))]) (λa e=>[]) ?_ ?_
 ·refine aO<|aA Z<|aA Z<|aB (Do Z Z) Z<|aA Z ?_;refine Dg h Z (λ_ h=>?_) λ_ h=>?_
  ·refine cO Z<|cO Z<|aN Z (AD Z Z) Z<|dV Z<|aD Z<|aL ?_;exact gY (decide (b<=d)) () h SF Z
  refine aG Z<|aG Z<|aG Z<|fK Z<|aD Z<|aL ?_;exact gY (false) () h SF Z
 intro a e h;unfold zF at h;refine aU ?_;cases h;exact kH Z
def o_  (a:Unit):Option (Bool):=
 some (true)
def pA (b:Int) (a:(Int)->Option (Bool)) (c:Unit):Option (Bool):=
 a (wI .i64 (b+(1:Int)))
def iN (d:fM) (b:Int) (e:(Int)->Option (Bool)) (a:Int) (c:(Int)->Option (Bool)):Option (Bool):=
 if a<b then(ck (0<=a∧a<(List.length d:Int)) (ck (0<=b∧b<(List.length d:Int)) (if((at' d a).1)=((at' d b).1)then(some (false))else(c (wI .i64 (a+(1:Int)))))))else(pA b e (()))
def jY (U:Nat) (d:fM) (c:Int) (b:(Int)->Option (Bool)) (a:Bool):Option (Bool):=
 if a=true then(some (false))else(bJ (iN d c b) U (0:Int))
def fT (U:Nat) (b:fM) (f:Int) (g:Int) (a:Int) (c:(Int)->Option (Bool)):Option (Bool):=
 if a<(List.length b:Int)then(ck (0<=a∧a<(List.length b:Int)) (Option.bind (sB U ((at' b a).1) (0:Int) (wI .i64 (g - (1:Int)))) λd=>(if(!d)=true then(jY U b a c (true))else(ck (0<=a∧a<(List.length b:Int)) (if((at' b a).1)=f then(jY U b a c (true))else(ck (0<=a∧a<(List.length b:Int)) (Option.bind (sB U ((at' b a).2) (1:Int) (15:Int)) λe=>(jY U b a c ((!e))))))))))else(o_  (()))
def kT (U:Nat) (a:fM) (b:Int) (c:Int):Option (Bool):=
 bJ (fT U a b c) U (0:Int)
theorem acV:aW Tryz.prog 76:=Tryz.call76
theorem FC (U:Nat) {i:fM} {e:Int} {f:Int} (j:Value) (r:Bool) (h:kT U i e f=some r):
  aX Tryz.prog 76 #[j,vI (e),vI (f)] [Sl bD j i] (λx:Unit=>vB (r)) (λx l=>l) (λ_ l=>l):=by
 refine aX.of Tryz.func76 Z Tryz.ntmps76 Z λc=>?_;unfold kT at h;refine aV<|aD Z<|aL<|aJ<|dR (λv=>o_  v=some r) (λv D=>[]) (λv D=>[]) ?_ ?_
 ·refine aV<|aD Z<|aL<|aS<|dU (fT U i e f) (λd E=>[(0,j),(1,vI (e)),(2,vI (f)),(7,vI (d))]) (λd E=>[]) (0:Int) () h SF (a_.refl _) ?_;intro y d E h;refine aJ<|aV<|aA Z<|aA Z<|kB (aE.fact 0 Z) Z<|cM Z<|aL ?_;refine eX h Z (λh=>?_) λh=>?_
  ·refine cK<|aJ<|dR (λw=>pA d (bJ (fT U i e f) y) w=some r) (λw k=>[(0,j),(1,vI (e)),(2,vI (f)),(7,vI (d))]) (λw k=>[]) ?_ ?_
   ·refine aS<|aJ<|aJ<|dR (λa=>jY U i d (bJ (fT U i e f) y) a=some r) (λa m=>[(0,j),(1,vI (e)),(2,vI (f)),(7,vI (d)),(41,vB (a))]) (λa m=>[]) ?_ ?_
    ·refine aO<|aA Z<|aA Z<|cX h λq h=>aB (aY Z Z (aE.fact 0 Z) Z Z q) Z<|aB (fQ Z Z Z Z Z) Z<|aB (jN Z (aE.fact 0 Z) Z Z Z oK q) Z<|aA Z<|aB (lA Z Z) Z<|fH h λA B h=>aH (aM.callQ Jy (AY U  A B) Z .nil) Z λG=>aB (nR Z) Z<|aA Z ?_;refine wA (by exact rfl) (by exact rfl) (λb=>?_) (λb=>?_)
     ·have h:=Lz b h;refine aG Z<|aG Z<|aG Z<|aG Z<|aG Z<|aG Z<|aG Z<|dV Z<|aA Z<|aG Z<|aG Z<|aG Z<|aG Z<|aG Z<|aG Z<|aG Z<|dV Z<|aL ?_;exact gY (true) () h SF Z
     have h:=Hn b h;refine cO Z<|cO Z<|cX h λs h=>aN Z (aY Z Z (aE.fact 0 Z) Z Z s) Z<|aN Z (fQ Z Z Z Z Z) Z<|aN Z (jN Z (aE.fact 0 Z) Z Z Z oK s) Z<|cO Z<|aN Z (On Z Z) Z<|fK Z<|aA Z ?_;refine Dg h Z (λ_ h=>?_) λ_ h=>?_
     ·refine aG Z<|aG Z<|aG Z<|aG Z<|aG Z<|aG Z<|aG Z<|dV Z<|aL ?_;exact gY (true) () h SF Z
     refine cO Z<|cO Z<|cX h λt h=>aN Z (aY Z Z (aE.fact 0 Z) Z Z t) Z<|aN Z (fQ Z Z Z Z Z) Z<|aN Z (jN Z (aE.fact 0 Z) Z Z Z Fa t) Z<|fH h λu C h=>qB Z (aM.callQ Jy (AY U  u C) Z .nil) Z λH=>aN Z (nR Z) Z<|fK Z<|aL ?_;exact gY ((!u)) () h SF Z
    intro a m h;refine Ai h Z (λ_ h=>?_) λ_ h=>?_
    ·refine aV<|aD Z<|aL<|aU<|aI<|bK<|aI<|aI<|bK<|aI ?_;cases h;exact kH Z
    refine cK<|aV<|aD Z<|aL<|aS<|dU (iN i d (bJ (fT U i e f) y)) (λg n=>[(0,j),(1,vI (e)),(2,vI (f)),(7,vI (d)),(8,vI (g))]) (λg n=>[]) (0:Int) () h SF (a_.refl _) ?_;intro F g n h;refine aJ<|aV<|aA Z<|aA Z<|cM Z<|aL ?_;refine eX h Z (λh=>?_) λh=>?_
    ·refine cK<|aJ<|aS<|aJ ?_;refine JR.start [0,0,3,7,15,0,0,96,224,480,1023] 10 mixedOrders (by decide +kernel) ?_;refine JR.open (by exact rfl) ?_;refine bH Z<|bH Z<|cX h λo h=>bL Z .nil (lR 0 Z) (aY Z Z (aE.fact 0 Z) Z Z o) aP.z<|iF Z (fQ Z Z Z Z Z)<|bL Z .nil (lR 0 Z) (jN Z (aE.fact 0 Z) Z Z Z oK o) aP.z<|bH Z<|bH Z<|cX h λp h=>bL Z .nil (lR 0 Z) (aY Z Z (aE.fact 0 Z) Z Z p) aP.z<|iF Z (fQ Z Z Z Z Z)<|bL Z .nil (lR 0 Z) (jN Z (aE.fact 0 Z) Z Z Z oK p) aP.z<|bP 10 Z Z<|cP Z<|aL ?_;refine eX h Z (λh=>?_) λh=>?_
     ·refine aV<|aD Z<|aL<|aU<|bK<|aI<|aI<|bK<|bK<|aI<|aI<|bK<|aI ?_;cases h;exact kH Z
     refine dL<|mI<|aO<|aA Z<|cJ Z<|aD Z<|aL ?_;exact xY (wI .i64 (g+(1:Int))) () h SF Z
    refine rA<|eM<|eM<|xN<|mI ?_;exact gY () (()) h SF Z
   intro w k h;unfold pA at h;refine aO<|aA Z<|cJ Z<|aD Z<|aL ?_;exact xY (wI .i64 (d+(1:Int))) () h SF Z
  refine fC ?_;exact gY () (()) h SF Z
 intro v D h;unfold o_ at h;refine aV<|aD Z<|aL<|aU ?_;cases h;exact kH Z
def BG  (a:Unit):Option (Int):=
 some (-1:Int)
def yP (c:cQ) (a:Int) (e:Int) (b:Int) (d:(Int)->Option (Int)):Option (Int):=
 ck (0<=a∧a<(List.length c.2:Int)) (if b<(List.length (at' c.2 a):Int)then(ck (0<=a∧a<(List.length c.2:Int)) (ck (0<=b∧b<(List.length (at' c.2 a):Int)) (if((at' (at' c.2 a) b).1)=e then(some (b))else(d (wI .i64 (b+(1:Int)))))))else(BG  (())))
def wR (U:Nat) (a:cQ) (b:Int) (c:Int):Option (Int):=
 bJ (yP a b c) U (0:Int)
theorem acW:aW Tryz.prog 77:=Tryz.call77
theorem Nv (U:Nat) {g:cQ} {i:Int} {j:Int} (k:Value)  (m:Value)  (q:lX) (r:Int) (h:wR U g i j=some r):
  aX Tryz.prog 77 #[Value.agg #[k,m],vI (i),vI (j)] [Sl bN k g.1,S2 bD m q g.2] (λx:Unit=>vI (r)) (λx l=>l) (λ_ l=>l):=by
 refine aX.of Tryz.func77 Z Tryz.ntmps77 Z λc=>?_;unfold wR at h;refine aV<|aH (aM.box (cs:=[k,m]) Z Z) Z λn=>aD Z<|aL<|aJ<|dR (λd=>BG  d=some r) (λd o=>[]) (λd o=>[]) ?_ ?_
 ·refine aV<|aD Z<|aL<|aS<|dU (yP g i j) (λe p=>[(1,vI (i)),(2,vI (j)),(3,vP n),(7,vI (e))]) (λe p=>[bU n [k,m] 29]) (0:Int) () h SF (a_.refl _) ?_;intro s e p h;refine aJ<|aV<|aA Z<|bS Z<|dC 0 Z<|aA Z<|cX h λf h=>aB (cA Z Z (aE.fact 1 Z) Z Z f) Z<|aB (cF Z (aE.fact 1 Z) Z Z f) Z<|aB (fW Z (aE.el (aE.fact 1 Z) f.1 f.2) Z) Z<|cM Z<|aL ?_;refine eX h Z (λh=>?_) λh=>?_
  ·refine cK<|aJ<|aS<|aV<|bS Z<|dC 0 Z<|aA Z<|cX h λa h=>aB (cA Z Z (aE.fact 1 Z) Z Z a) Z<|aB (cF Z (aE.fact 1 Z) Z Z a) Z<|aA Z<|cX h λb h=>aB (aY Z Z (aE.el (aE.fact 1 Z) a.1 a.2) Z Z b) Z<|aB (fQ Z Z Z Z Z) Z<|aB (jN Z (aE.el (aE.fact 1 Z) a.1 a.2) Z Z Z oK b) Z<|aA Z<|cP Z<|aL ?_;refine eX h Z (λh=>?_) λh=>?_
   ·refine aV<|aA Z<|aD Z<|aL<|aU<|bK<|aI<|aI<|bK<|aI ?_;cases h;exact tO Z
   refine dL<|mI<|aO<|aA Z<|cJ Z<|aD Z<|aL ?_;exact xY (wI .i64 (e+(1:Int))) () h SF Z
  refine fC ?_;exact cH () (()) h SF .nil (aF.refl _ _)
 intro d o h;unfold BG at h;refine aV<|aD Z<|aL<|aU ?_;cases h;exact kH Z
def wZ  (a:Unit):Option (Bool):=
 some (true)
def w_ (b:Int) (a:(Int)->Option (Bool)) (c:Unit):Option (Bool):=
 a (wI .i64 (b+(1:Int)))
def xA (b:Int) (a:(Int)->Option (Bool)) (c:Bool):Option (Bool):=
 if c=true then(some (false))else(a (wI .i64 (b+(1:Int))))
def jU (U:Nat) (c:cQ) (a:Int) (f:(Int)->Option (Bool)) (b:Int) (e:(Int)->Option (Bool)):Option (Bool):=
 ck (0<=a∧a<(List.length c.2:Int)) (if b<(List.length (at' c.2 a):Int)then(ck (0<=a∧a<(List.length c.2:Int)) (ck (0<=b∧b<(List.length (at' c.2 a):Int)) (Option.bind (wR U ((c.1,c.2)) ((at' (at' c.2 a) b).1) a) λd=>(if d<(0:Int)then(xA b e (true))else(ck (0<=((at' (at' c.2 a) b).1)∧((at' (at' c.2 a) b).1)<(List.length c.2:Int)) (ck (0<=d∧d<(List.length (at' c.2 ((at' (at' c.2 a) b).1)):Int)) (xA b e (decide (((at' (at' c.2 ((at' (at' c.2 a) b).1)) d).2)≠((at' (at' c.2 a) b).2))))))))))else(w_ a f (())))
def jT (U:Nat) (c:cQ) (a:Int) (b:(Int)->Option (Bool)):Option (Bool):=
 if a<(List.length c.2:Int)then(bJ (jU U c a b) U (0:Int))else(wZ  (()))
def sF (U:Nat) (a:cQ) (b:Unit):Option (Bool):=
 bJ (jT U a) U (0:Int)
def xB (b:Int) (a:(Int)->Option (Bool)) (c:Unit):Option (Bool):=
 a (wI .i64 (b+(1:Int)))
def nF (e:cQ) (a:Int) (c:(Int)->Option (Bool)) (b:Int) (d:(Int)->Option (Bool)):Option (Bool):=
 if b<a then(ck (0<=b∧b<(List.length e.1:Int)) (ck (0<=a∧a<(List.length e.1:Int)) (if(at' e.1 b)=(at' e.1 a)then(some (false))else(d (wI .i64 (b+(1:Int)))))))else(xB a c (()))
def pU (U:Nat) (d:cQ) (b:Int) (a:(Int)->Option (Bool)) (c:Bool):Option (Bool):=
 if c=true then(some (false))else(bJ (nF d b a) U (0:Int))
def jV (U:Nat) (b:cQ) (a:Int) (c:(Int)->Option (Bool)):Option (Bool):=
 if a<(List.length b.2:Int)then(ck (0<=a∧a<(List.length b.1:Int)) (Option.bind (sB U (at' b.1 a) (0:Int) (255:Int)) λd=>(if(!d)=true then(pU U b a c (true))else(ck (0<=a∧a<(List.length b.2:Int)) (if(List.length b.2:Int)<=(List.length (at' b.2 a):Int)then(pU U b a c (true))else(ck (0<=a∧a<(List.length b.2:Int)) (Option.bind (kT U (at' b.2 a) a (List.length b.2:Int)) λe=>(pU U b a c ((!e))))))))))else(sF U b (()))
def wY (U:Nat) (b:cQ) (a:Bool):Option (Bool):=
 if a=true then(some (false))else(bJ (jV U b) U (0:Int))
def tX (U:Nat) (a:cQ):Option (Bool):=
 Option.bind (sB U (List.length a.2:Int) (1:Int) (24:Int)) λb=>(if(!b)=true then(wY U a (true))else(wY U a (decide ((List.length a.1:Int)≠(List.length a.2:Int)))))
theorem acL:aW Tryz.prog 48:=Tryz.call48
theorem KZ (U:Nat) {a:cQ} (g:Value)  (i:Value)  (z2:lX) (r:Bool) (h:tX U a=some r):
  aX Tryz.prog 48 #[Value.agg #[g,i]] [Sl bN g a.1,S2 bD i z2 a.2] (λx:Unit=>vB (r)) (λx l=>l) (λ_ l=>l):=by
 refine aX.of Tryz.func48 Z Tryz.ntmps48 Z λc=>?_;refine aV<|aH (aM.box (cs:=[g,i]) Z Z) Z λf=>aD Z<|aL<|aV<|bS Z<|dC 0 Z<|aB (iY Z (aE.fact 1 Z) Z) Z<|aD Z<|aL<|aJ<|aJ<|dR (λC=>wY U a C=some r) (λC b4=>[(1,vP f),(3,vI (List.length a.2:Int)),(22,vB (C))]) (λC b4=>[bU f [g,i] 29]) ?_ ?_
 ·refine aO<|aA Z<|fH h λX ac h=>aH (aM.callQ Jy (AY U  X ac) Z .nil) Z λai=>aB (nR Z) Z<|aA Z ?_;refine wA (by exact rfl) (by exact rfl) (λq=>?_) (λq=>?_)
  ·have h:=Lz q h;refine aG Z<|aG Z<|aG Z<|aG Z<|aG Z<|dV Z<|aL ?_;exact gY (true) () h SF Z
  have h:=Hn q h;refine aN Z (dO Z Z Z Z Z) Z<|aN Z (eW 0 Z Z Z Z Z) Z<|aN Z (fW Z (aE.fact 0 Z) Z) Z<|cO Z<|aN Z (Dq Z Z) Z<|fK Z<|aL ?_;exact gY (decide ((List.length a.1:Int)≠(List.length a.2:Int))) () h SF Z
 intro C b4 h;refine Ai h Z (λ_ h=>?_) λ_ h=>?_
 ·refine aV<|aD Z<|aL<|aU<|aI ?_;cases h;exact tO Z
 refine cK<|aJ<|dR (λS=>sF U a S=some r) (λS b7=>[(1,vP f),(3,vI (List.length a.2:Int))]) (λS b7=>[bU f [g,i] 29]) ?_ ?_
 ·refine aV<|aD Z<|aL<|aS<|dU (jV U a) (λe H=>[(1,vP f),(3,vI (List.length a.2:Int)),(4,vI (e))]) (λe H=>[bU f [g,i] 29]) (0:Int) () h SF (a_.refl _) ?_;intro B e H h;refine aJ<|aV<|aA Z<|aA Z<|cM Z<|aL ?_;refine eX h Z (λh=>?_) λh=>?_
  ·refine cK<|aJ<|dR (λt=>xB e (bJ (jV U a) B) t=some r) (λt I=>[(1,vP f),(3,vI (List.length a.2:Int)),(4,vI (e))]) (λt I=>[bU f [g,i] 29]) ?_ ?_
   ·refine aS<|aJ<|aJ<|dR (λn=>pU U a e (bJ (jV U a) B) n=some r) (λn J=>[(1,vP f),(3,vI (List.length a.2:Int)),(4,vI (e)),(55,vB (n))]) (λn J=>[bU f [g,i] 29]) ?_ ?_
    ·refine aO<|bS Z<|dC 0 Z<|aA Z<|cX h λP h=>aB (aY Z Z (aE.fact 0 Z) Z Z P) Z<|aB (bV Z (aE.fact 0 Z) Z Z Z dA P) Z<|fH h λW aa h=>aH (aM.callQ Jy (AY U  W aa) Z .nil) Z λag=>aB (nR Z) Z<|aA Z ?_;refine wA (by exact rfl) (by exact rfl) (λp=>?_) (λp=>?_)
     ·have h:=Lz p h;refine aG Z<|aG Z<|aG Z<|aG Z<|aG Z<|aG Z<|aG Z<|aG Z<|dV Z<|aA Z<|aG Z<|aG Z<|aG Z<|aG Z<|aG Z<|aG Z<|aG Z<|aG Z<|aG Z<|dV Z<|aL ?_;exact gY (true) () h SF Z
     have h:=Hn p h;refine aN Z (dO Z Z Z Z Z) Z<|aN Z (eW 0 Z Z Z Z Z) Z<|cO Z<|cX h λw h=>aN Z (cA Z Z (aE.fact 1 Z) Z Z w) Z<|aN Z (cF Z (aE.fact 1 Z) Z Z w) Z<|aN Z (fW Z (aE.el (aE.fact 1 Z) w.1 w.2) Z) Z<|cO Z<|aN Z (Do Z Z) Z<|fK Z<|aA Z ?_;refine Dg h Z (λ_ h=>?_) λ_ h=>?_
     ·refine aG Z<|aG Z<|aG Z<|aG Z<|aG Z<|aG Z<|aG Z<|aG Z<|aG Z<|dV Z<|aL ?_;exact gY (true) () h SF Z
     refine aN Z (dO Z Z Z Z Z) Z<|aN Z (eW 0 Z Z Z Z Z) Z<|cO Z<|cX h λy h=>aN Z (cA Z Z (aE.fact 1 Z) Z Z y) Z<|aN Z (cF Z (aE.fact 1 Z) Z Z y) Z<|cO Z<|cO Z<|fH h λR ab h=>qB Z (aM.callQ acV (FC U ((at' z2 e).1) R ab) Z (aF.cons (aE.el (aE.fact 1 Z) y.1 y.2) .nil)) Z λah=>aN Z (nR Z) Z<|fK Z<|aL ?_;exact gY ((!R)) () h SF Z
    intro n J h;refine Ai h Z (λ_ h=>?_) λ_ h=>?_
    ·refine aV<|aD Z<|aL<|aU<|aI<|bK<|aI<|aI<|bK<|aI ?_;cases h;exact tO Z
    refine cK<|aV<|aD Z<|aL<|aS<|dU (nF a e (bJ (jV U a) B)) (λu K=>[(1,vP f),(3,vI (List.length a.2:Int)),(4,vI (e)),(5,vI (u))]) (λu K=>[bU f [g,i] 29]) (0:Int) () h SF (a_.refl _) ?_;intro ae u K h;refine aJ<|aV<|aA Z<|aA Z<|cM Z<|aL ?_;refine eX h Z (λh=>?_) λh=>?_
    ·refine cK<|aJ<|aS<|aJ ?_;refine JR.start [0,1,0,7,15,0,32,0,224,480,1023] 10 mixedOrders (by decide +kernel) ?_;refine JR.open (by exact rfl) ?_;refine dB Z<|jQ 0 Z<|bH Z<|cX h λN h=>bL Z .nil (lR 0 Z) (aY Z Z (aE.fact 0 Z) Z Z N) aP.z<|bL Z .nil (lR 0 Z) (bV Z (aE.fact 0 Z) Z Z Z dA N) aP.z<|dB Z<|jQ 0 Z<|bH Z<|cX h λO h=>bL Z .nil (lR 0 Z) (aY Z Z (aE.fact 0 Z) Z Z O) aP.z<|bL Z .nil (lR 0 Z) (bV Z (aE.fact 0 Z) Z Z Z dA O) aP.z<|bP 10 Z Z<|cP Z<|aL ?_;refine eX h Z (λh=>?_) λh=>?_
     ·refine aV<|aD Z<|aL<|aU<|bK<|aI<|aI<|bK<|bK<|aI<|aI<|bK<|aI ?_;cases h;exact tO Z
     refine dL<|mI<|aO<|aA Z<|cJ Z<|aD Z<|aL ?_;exact xY (wI .i64 (u+(1:Int))) () h SF Z
    refine rA<|eM<|eM<|xN<|mI ?_;exact gY () (()) h SF Z
   intro t I h;unfold xB at h;refine aO<|aA Z<|cJ Z<|aD Z<|aL ?_;exact xY (wI .i64 (e+(1:Int))) () h SF Z
  refine fC ?_;exact gY () (()) h SF Z
 intro S b7 h;unfold sF at h;refine aJ<|dR (λT=>wZ  T=some r) (λT b9=>[]) (λT b9=>[]) ?_ ?_
 ·refine aV<|aD Z<|aL<|aS<|dU (jT U a) (λb D=>[(1,vP f),(3,vI (List.length a.2:Int)),(6,vI (b))]) (λb D=>[bU f [g,i] 29]) (0:Int) () h SF (a_.refl _) ?_;intro A b D h;refine aJ<|aV<|aA Z<|aA Z<|cM Z<|aL ?_;refine eX h Z (λh=>?_) λh=>?_
  ·refine cK<|aJ<|dR (λs=>w_ b (bJ (jT U a) A) s=some r) (λs E=>[(1,vP f),(3,vI (List.length a.2:Int)),(6,vI (b))]) (λs E=>[bU f [g,i] 29]) ?_ ?_
   ·refine aS<|aV<|aD Z<|aL<|aS<|dU (jU U a b (bJ (jT U a) A)) (λd F=>[(1,vP f),(3,vI (List.length a.2:Int)),(6,vI (b)),(7,vI (d))]) (λd F=>[bU f [g,i] 29]) (0:Int) () h SF (a_.refl _) ?_;intro V d F h;refine aJ<|aV<|aA Z<|bS Z<|dC 0 Z<|aA Z<|cX h λv h=>aB (cA Z Z (aE.fact 1 Z) Z Z v) Z<|aB (cF Z (aE.fact 1 Z) Z Z v) Z<|aB (fW Z (aE.el (aE.fact 1 Z) v.1 v.2) Z) Z<|cM Z<|aL ?_;refine eX h Z (λh=>?_) λh=>?_
    ·refine cK<|aJ<|aS<|aV<|bS Z<|dC 0 Z<|aA Z<|cX h λj h=>aB (cA Z Z (aE.fact 1 Z) Z Z j) Z<|aB (cF Z (aE.fact 1 Z) Z Z j) Z<|aA Z<|cX h λL h=>aB (aY Z Z (aE.el (aE.fact 1 Z) j.1 j.2) Z Z L) Z<|aB (iZ (cs:=[vI ((at' (at' a.2 b) d).1),vI ((at' (at' a.2 b) d).2)]) Z (aE.el (aE.fact 1 Z) j.1 j.2) bQ Z Z Z Z L) Z<|aH (aM.alloc (cs:=Vd) Z Z) Z λad=>bT 0 (vs:=[vI ((at' (at' a.2 b) d).1),vI ((at' (at' a.2 b) d).2)]) Z Z Z Z Z Z<|aL<|aV<|eT 1 Z<|bS Z<|dC 0 Z<|aA Z<|fH h λQ Y h=>aH (aM.callQ acW (Nv U g i z2 Q Y) Z (pO [0,1] Z)) Z λaf=>aD Z<|aL<|aJ<|dR (λm=>xA d (bJ (jU U a b (bJ (jT U a) A)) V) m=some r) (λm G=>[(1,vP f),(3,vI (List.length a.2:Int)),(6,vI (b)),(7,vI (d)),(116,vB (m))]) (λm G=>[bU f [g,i] 29]) ?_ ?_
     ·refine JR.start [0,1,3,7,15,7,39,127,255,7,1023,2047,4095,7,8199,32767,65535] 15 mixedOrders (by decide +kernel) ?_;refine JR.open (by exact rfl) ?_;refine bH Z<|iF Z (EK Z Z)<|bH Z ?_;refine GW (by exact rfl) (by exact rfl) (by exact rfl) (λo=>?_) (λo=>?_)
      ·have h:=Lz o h;refine bY Z Z Z Z<|bY Z Z Z Z<|bY Z Z Z Z<|bY Z Z Z Z<|bY Z Z Z Z<|bY Z Z Z Z<|bY Z Z Z Z<|bY Z Z Z Z<|bY Z Z Z Z<|bY Z Z Z Z<|bY Z Z Z Z<|bY Z Z Z Z<|bP 15 Z Z<|aG Z<|dV Z<|aL ?_;exact cH (true) () h SF (a_.ix [1] Z Z) (aF.refl _ _)
      have h:=ifN o h;refine iK Z .nil .nil (dO Z Z Z Z Z) aP.z<|iK Z (a_.cons 1 Z .nil) .nil (eW 0 Z Z Z Z Z) aP.z<|iK Z .nil .nil (dO Z Z Z Z Z) aP.z<|iK Z (a_.cons 0 Z .nil) .nil (eW 0 Z Z Z Z Z) aP.z<|cX h λk h=>iK Z .nil (lR 1 Z) (cA Z Z (aE.fact 0 Z) Z Z k) aP.z<|iK Z .nil (lR 1 Z) (cF Z (aE.fact 0 Z) Z Z k) aP.z<|iK Z .nil .nil (gQ Z) aP.z<|cX h λM h=>iK Z .nil (lR 1 Z) (aY Z Z (aE.el (aE.fact 0 Z) k.1 k.2) Z Z M) aP.z<|iK Z .nil .nil (fQ Z Z Z Z Z) aP.z<|iK Z .nil (lR 1 Z) (jN Z (aE.el (aE.fact 0 Z) k.1 k.2) Z Z Z Fa M) aP.z<|iK Z .nil .nil (dO Z Z Z Z Z) aP.z<|iK Z (a_.cons 0 Z .nil) .nil (eW 0 Z Z Z Z Z) aP.z<|bP 15 Z Z<|aN Z (Dq Z Z) Z<|fK Z<|aL ?_;exact cH (decide (((at' (at' a.2 ((at' (at' a.2 b) d).1)) Q).2)≠((at' (at' a.2 b) d).2))) () h SF (a_.ix [1] Z Z) (aF.refl _ _)
     intro m G h;refine Ai h Z (λ_ h=>?_) λ_ h=>?_
     ·refine aV<|aD Z<|aL<|aU<|bK<|aI<|aI<|bK<|bK<|aI<|aI<|bK<|aI ?_;cases h;exact tO Z
     refine dL<|mI<|aO<|aA Z<|cJ Z<|aD Z<|aL ?_;exact xY (wI .i64 (d+(1:Int))) () h SF Z
    refine rA<|eM<|eM<|xN<|mI ?_;exact gY () (()) h SF Z
   intro s E h;unfold w_ at h;refine aO<|aA Z<|cJ Z<|aD Z<|aL ?_;exact xY (wI .i64 (b+(1:Int))) () h SF Z
  refine fC ?_;exact cH () (()) h SF .nil (aF.refl _ _)
 intro T b9 h;unfold wZ at h;refine aV<|aD Z<|aL<|aU ?_;cases h;exact kH Z
def qJ  (a:aR):Option aR:=
 some (a)
def qK (b:nS) (a:xK->Option aR) (c:aR):Option aR:=
 a ((wI .i64 (b.1+(1:Int))),c)
def qL (b:nS) (a:xK->Option aR) (c:aR):Option aR:=
 a ((wI .i64 (b.1+(1:Int))),c)
def nE (b:nS) (a:xK->Option aR) (c:aR):Option aR:=
 a ((wI .i64 (b.1+(1:Int))),c)
def qM (f:cQ) (d:nS) (b:nS) (e:xK->Option aR) (a:nS) (c:xK->Option aR) (g:Bool):Option aR:=
 if g=true then(ck (0<=b.1∧b.1<(List.length f.2:Int)) (ck (0<=a.1∧a.1<(List.length (at' f.2 b.1):Int)) (ck (0<=((at' (at' f.2 b.1) a.1).1)∧((at' (at' f.2 b.1) a.1).1)<(List.length a.2:Int)) (if(at' a.2 ((at' (at' f.2 b.1) a.1).1))=(wI .i64 (d.1 - (1:Int)))then(ck (0<=b.1∧b.1<(List.length a.2:Int)) (nE a c (List.set a.2 (Int.toNat b.1) d.1)))else(nE a c (a.2))))))else(qL b e (a.2))
def kU (f:cQ) (e:nS) (a:nS) (c:xK->Option aR) (b:nS) (d:xK->Option aR):Option aR:=
 ck (0<=a.1∧a.1<(List.length f.2:Int)) (if b.1<(List.length (at' f.2 a.1):Int)then(ck (0<=a.1∧a.1<(List.length b.2:Int)) (qM f e a c b d (decide ((at' b.2 a.1)<(0:Int)))))else(qM f e a c b d (false)))
def gZ (U:Nat) (e:cQ) (b:nS) (c:xK->Option aR) (a:nS) (d:xK->Option aR):Option aR:=
 if a.1<(List.length e.2:Int)then(bJ (kU e b a d) U ((0:Int),a.2))else(qK b c (a.2))
def eV (U:Nat) (c:cQ) (a:nS) (b:xK->Option aR):Option aR:=
 if a.1<(List.length c.2:Int)then(bJ (gZ U c a b) U ((0:Int),a.2))else(qJ  (a.2))
def vE (U:Nat) (c:cQ) (a:Int) (b:aR):Option aR:=
 ck (0<=a∧a<(List.length b:Int)) (bJ (eV U c) U ((1:Int),(List.set b (Int.toNat a) (0:Int))))
def vF (U:Nat) (c:cQ) (d:Int) (a:aR×Int) (b:(aR×Int)->Option aR):Option aR:=
 if a.2<(List.length c.2:Int)then(ck ((List.length a.1:Int)+(List.length ([(-1:Int)]):Int)<=1099511627) (b ((a.1++([(-1:Int)])),(wI .i64 (a.2+(1:Int))))))else(vE U c d (a.1))
def qI (U:Nat) (b:cQ) (c:Int) (a:Bool):Option aR:=
 if a=true then(some ([]:aR))else(bJ (vF U b c) U (([]:aR),(0:Int)))
def rF (U:Nat) (a:cQ) (b:Int):Option aR:=
 Option.bind (tX U ((a.1,a.2))) λc=>(if(!c)=true then(qI U a b (true))else(Option.bind (sB U b (0:Int) (wI .i64 ((List.length a.2:Int) - (1:Int)))) λd=>(qI U a b ((!d)))))
theorem acF:aW Tryz.prog 28:=Tryz.call28
theorem GI (U:Nat) {d:cQ} {A:Int} (m:Value)  (n:Value)  (z2:lX) (r:aR) (h:rF U d A=some r):
  aX Tryz.prog 28 #[Value.agg #[m,n],vI (A)] [Sl bN m d.1,S2 bD n z2 d.2] (λx:Value=>x) (λx l=>Ar cC x r::l) (λ_ l=>l):=by
 refine aX.of Tryz.func28 Z Tryz.ntmps28 Z λc=>?_;refine aV<|aH (aM.box (cs:=[m,n]) Z Z) Z λi=>aD Z<|aL<|aJ<|aJ<|dR (λD=>qI U d A D=some r) (λD b4=>[(1,vI (A)),(2,vP i),(22,vB (D))]) (λD b4=>[bU i [m,n] 29]) ?_ ?_
 ·refine aO<|eT 0 Z<|fH h λV X h=>aH (aM.callQ acL (KZ U m n z2 V X) Z (pO [0,1] Z)) Z λac=>aB (nR Z) Z<|aA Z ?_;refine wA (by exact rfl) (by exact rfl) (λw=>?_) (λw=>?_)
  ·have h:=Lz w h;refine aG Z<|aG Z<|aG Z<|aG Z<|aG Z<|aG Z<|aG Z<|dV Z<|aL ?_;exact gY (true) () h SF Z
  have h:=Hn w h;refine cO Z<|aN Z (dO Z Z Z Z Z) Z<|aN Z (eW 0 Z Z Z Z Z) Z<|aN Z (iY Z (aE.fact 1 Z) Z) Z<|aN Z (lA Z Z) Z<|fH h λS Y h=>qB Z (aM.callQ Jy (AY U  S Y) Z .nil) Z λad=>aN Z (nR Z) Z<|fK Z<|aL ?_;exact gY ((!S)) () h SF Z
 intro D b4 h;refine Ai h Z (λ_ h=>?_) λ_ h=>?_
 ·refine aV<|aD Z<|aL<|aU<|aI<|iS (gJ cC) ?_;cases h;exact iB (k_) Z Z (RV.tmp Z) (a_.ix [0] Z Z) aF.nil
 refine cK<|aV<|bS Z<|dC 0 Z<|aB (iY Z (aE.fact 1 Z) Z) Z<|aD Z<|aL<|aV<|aD Z<|aL<|aJ<|DG (B:=Value) (λC=>vE U d A C=some r) (λC g=>[(1,vI (A)),(2,vP i),(5,vI (List.length d.2:Int)),(6,g)]) (λC g=>[bU i [m,n] 29,Ar cC g C]) ?_ ?_
 ·refine aV<|aD Z<|aL<|aS<|iS (gJ cC)<|dU (B:=Value) (vF U d A) (λj v=>[(1,vI (A)),(2,vP i),(5,vI (List.length d.2:Int)),(6,v),(7,vI (j.2))]) (λj v=>[bU i [m,n] 29,Ar cC v j.1]) (([]:aR),(0:Int)) (k_) h SF (a_.ix [1,0] Z Z) ?_;intro aa j v h;refine aJ<|aV<|aA Z<|aA Z<|cM Z<|aL ?_;refine eX h Z (λh=>?_) λh=>?_
  ·refine cK<|aJ<|aS<|aO<|aA Z<|aH (bW (e:=cC) ([(-1:Int)]) [(0,vI (-1:Int))] Z Z Z Z (mR (vI (-1:Int)) Z) Z Z Z) Z λab=>cX h λT h=>aH (eO 2 dM Z Z Z (bB (aE.res 0 Z) dM) Z Z Z Z T Z) Z λW=>aD Z<|eJ<|mI<|aO<|aA Z<|cJ Z<|aD Z<|aL ?_;exact mL ((j.1++([(-1:Int)])),(wI .i64 (j.2+(1:Int)))) (W) h SF (a_.ix [1,2] Z Z) (aF.refl _ _)
  refine fC ?_;exact gY (j.1) (v) h SF Z
 intro C g h;refine aV<|aA Z<|aA Z<|cX h λM h=>aB (aY Z Z (bB (aE.res 1 Z) dM) Z Z M) Z<|AB 1 (0:Int) M Z Z Z Z Z Z Z<|aL<|aJ<|dR (λt=>qJ  t=some r) (λt E=>[(6,g)]) (λt E=>[Ar cC g t]) ?_ ?_
 ·refine aV<|aD Z<|aL<|aS<|dU (eV U d) (λa F=>[(2,vP i),(5,vI (List.length d.2:Int)),(6,g),(8,vI (a.1))]) (λa F=>[bU i [m,n] 29,Ar cC g a.2]) ((1:Int),(List.set C (Int.toNat A) (0:Int))) () h SF (a_.refl _) ?_;intro k a F h;refine aJ<|aV<|aA Z<|aA Z<|cM Z<|aL ?_;refine eX h Z (λh=>?_) λh=>?_
  ·refine cK<|aJ<|dR (λo=>qK a (bJ (eV U d) k) o=some r) (λo G=>[(2,vP i),(5,vI (List.length d.2:Int)),(6,g),(8,vI (a.1))]) (λo G=>[bU i [m,n] 29,Ar cC g o]) ?_ ?_
   ·refine aS<|aV<|aD Z<|aL<|aS<|dU (gZ U d a (bJ (eV U d) k)) (λb H=>[(2,vP i),(5,vI (List.length d.2:Int)),(6,g),(8,vI (a.1)),(9,vI (b.1))]) (λb H=>[bU i [m,n] 29,Ar cC g b.2]) ((0:Int),a.2) () h SF (a_.refl _) ?_;intro y b H h;refine aJ<|aV<|aA Z<|aA Z<|cM Z<|aL ?_;refine eX h Z (λh=>?_) λh=>?_
    ·refine cK<|aJ<|dR (λp=>qL b (bJ (gZ U d a (bJ (eV U d) k)) y) p=some r) (λp I=>[(2,vP i),(5,vI (List.length d.2:Int)),(6,g),(8,vI (a.1)),(9,vI (b.1))]) (λp I=>[bU i [m,n] 29,Ar cC g p]) ?_ ?_
     ·refine aS<|aV<|aD Z<|aL<|aS<|dU (kU d a b (bJ (gZ U d a (bJ (eV U d) k)) y)) (λf J=>[(2,vP i),(5,vI (List.length d.2:Int)),(6,g),(8,vI (a.1)),(9,vI (b.1)),(10,vI (f.1))]) (λf J=>[bU i [m,n] 29,Ar cC g f.2]) ((0:Int),b.2) () h SF (a_.refl _) ?_;intro R f J h;refine aJ<|aJ<|dR (λu=>qM d a b (bJ (gZ U d a (bJ (eV U d) k)) y) f (bJ (kU d a b (bJ (gZ U d a (bJ (eV U d) k)) y)) R) u=some r) (λu K=>[(2,vP i),(5,vI (List.length d.2:Int)),(6,g),(8,vI (a.1)),(9,vI (b.1)),(10,vI (f.1)),(61,vB (u))]) (λu K=>[bU i [m,n] 29,Ar cC g f.2]) ?_ ?_
      ·refine aO<|aA Z<|bS Z<|dC 0 Z<|aA Z<|cX h λz h=>aB (cA Z Z (aE.fact 1 Z) Z Z z) Z<|aB (cF Z (aE.fact 1 Z) Z Z z) Z<|aB (fW Z (aE.el (aE.fact 1 Z) z.1 z.2) Z) Z<|cM Z<|aA Z ?_;refine Dg h Z (λ_ h=>?_) λ_ h=>?_
       ·refine cO Z<|cO Z<|cX h λQ h=>aN Z (aY Z Z (bB (aE.res 1 Z) dM) Z Z Q) Z<|aN Z (bV Z (bB (aE.res 1 Z) dM) Z Z Z dA Q) Z<|aN Z (EK Z Z) Z<|dV Z<|aL ?_;exact gY (decide ((at' f.2 b.1)<(0:Int))) () h SF Z
       refine aG Z<|aG Z<|aG Z<|aG Z<|aG Z<|fK Z<|aL ?_;exact gY (false) () h SF Z
      intro u K h;refine Ai h Z (λ_ h=>?_) λ_ h=>?_
      ·refine cK<|aJ<|dR (λq=>nE f (bJ (kU d a b (bJ (gZ U d a (bJ (eV U d) k)) y)) R) q=some r) (λq L=>[(2,vP i),(5,vI (List.length d.2:Int)),(6,g),(8,vI (a.1)),(9,vI (b.1)),(10,vI (f.1))]) (λq L=>[bU i [m,n] 29,Ar cC g q]) ?_ ?_
       ·refine aS<|aV<|aA Z<|bS Z<|dC 0 Z<|aA Z<|cX h λs h=>aB (cA Z Z (aE.fact 1 Z) Z Z s) Z<|aB (cF Z (aE.fact 1 Z) Z Z s) Z<|aA Z<|cX h λN h=>aB (aY Z Z (aE.el (aE.fact 1 Z) s.1 s.2) Z Z N) Z<|aB (fQ Z Z Z Z Z) Z<|aB (jN Z (aE.el (aE.fact 1 Z) s.1 s.2) Z Z Z oK N) Z<|cX h λO h=>aB (aY Z Z (bB (aE.res 1 Z) dM) Z Z O) Z<|aB (bV Z (bB (aE.res 1 Z) dM) Z Z Z dA O) Z<|aA Z<|aB (lA Z Z) Z<|cP Z<|aL ?_;refine eX h Z (λh=>?_) λh=>?_
        ·refine aO<|aA Z<|aA Z<|aA Z<|cX h λP h=>aB (aY Z Z (bB (aE.res 1 Z) dM) Z Z P) Z<|AB 1 a.1 P Z Z Z Z Z Z Z<|eJ<|mI ?_;exact gY (List.set f.2 (Int.toNat b.1) a.1) () h SF Z
        refine dL<|mI ?_;exact gY (f.2) () h SF Z
       intro q L h;unfold nE at h;refine aO<|aA Z<|cJ Z<|aD Z<|aL ?_;exact xY ((wI .i64 (f.1+(1:Int))),q) () h SF Z
      refine rA<|eM<|eM<|xN<|mI ?_;exact gY (f.2) () h SF Z
     intro p I h;unfold qL at h;refine aO<|aA Z<|cJ Z<|aD Z<|aL ?_;exact xY ((wI .i64 (b.1+(1:Int))),p) () h SF Z
    refine rA<|eM<|eM<|xN<|mI ?_;exact gY (b.2) () h SF Z
   intro o G h;unfold qK at h;refine aO<|aA Z<|cJ Z<|aD Z<|aL ?_;exact xY ((wI .i64 (a.1+(1:Int))),o) () h SF Z
  refine fC ?_;exact cH (a.2) () h SF (a_.ix [1] Z Z) (aF.refl _ _)
 intro t E h;unfold qJ at h;refine aV<|aA Z<|aD Z<|aL<|aU ?_;cases h;exact iB (g) Z Z (RV.tmp Z) (a_.refl _) aF.nil
def Bn  (a:Int):Option (Int):=
 some (a)
def Bo (c:aR) (a:eZ) (b:iH->Option (Int)):Option (Int):=
 if a.2<(List.length c:Int)then(ck (0<=a.2∧a.2<(List.length c:Int)) (b ((max a.1 (at' c a.2)),(wI .i64 (a.2+(1:Int))))))else(Bn  (a.1))
def sS (a:Nat) (b:aR):Option (Int):=
 bJ (Bo b) a ((-1:Int),(0:Int))
def nP (a:Nat) (b:cQ) (d:Int) (c:Bool):Option (Int):=
 if c=true then(some (-1:Int))else(Option.bind (jS a ((b.1,b.2)) d) λe=>(Option.bind (sS a e) λf=>(some (f))))
def rZ (a:Nat) (b:cQ) (c:Int):Option (Int):=
 Option.bind (fJ a ((b.1,b.2))) λd=>(if(!d)=true then(nP a b c (true))else(if c<(0:Int)then(nP a b c (true))else(nP a b c (decide ((List.length b.2:Int)<=c)))))
def wS (U:Nat) (a:ByteArray) (b:Int) (c:Int) (d:Int):Option ((ByteArray×Int×Int×Int×Int×Int)):=
 some ((a,(1:Int),(0:Int),b,c,d))
theorem Wk:aW Tryz.prog 32:=Tryz.call32
theorem D_ (U:Nat) {a:ByteArray} {b:Int} {d:Int} {e:Int} (r:PX) (h:wS U a b d e=some r):
  aX Tryz.prog 32 #[vS (a),vI (b),vI (d),vI (e)] [] (λx:Unit=>Value.agg #[vS (r.1),vI (r.2.1),vI (r.2.2.1),vI (r.2.2.2.1),vI (r.2.2.2.2.1),vI (r.2.2.2.2.2)]) (λx l=>l) (λ_ l=>l):=by
 refine aX.of Tryz.func32 Z Tryz.ntmps32 Z λc=>?_;unfold wS at h;refine aV<|aH (aM.alloc (cs:=vD3) Z Z) Z λf=>aL<|aV<|aA Z<|aA Z<|aA Z<|aA Z ?_;refine aB (Y.bld5 (r:=Value.agg #[vS (a),vI (1:Int),vI (0:Int),vI (b),vI (d),vI (e)]) Z Z Z Z Z (by intro w;simp[Instr.build,Instr.fill,fD,eD,dJ,fE,fF,eF,gK])) Z ?_;refine bT 0 (vs:=[vS (a),vI (1:Int),vI (0:Int),vI (b),vI (d),vI (e)]) Z Z Z Z Z Z<|aL<|aU ?_;cases h;exact iB () Z Z (RV.cell 0 Z Z Z Z) .nil aF.nil
def zR (U:Nat) (a:ByteArray):Option ((ByteArray×Int×Int×Int×Int×Int)):=
 some ((a,(3:Int),(0:Int),(0:Int),(0:Int),(0:Int)))
theorem ac_:aW Tryz.prog 84:=Tryz.call84
theorem Iv (U:Nat) {a:ByteArray} (r:PX) (h:zR U a=some r):
  aX Tryz.prog 84 #[vS (a)] [] (λx:Unit=>Value.agg #[vS (r.1),vI (r.2.1),vI (r.2.2.1),vI (r.2.2.2.1),vI (r.2.2.2.2.1),vI (r.2.2.2.2.2)]) (λx l=>l) (λ_ l=>l):=by
 refine aX.of Tryz.func84 Z Tryz.ntmps84 Z λc=>?_;unfold zR at h;refine aV<|aH (aM.alloc (cs:=vD3) Z Z) Z λb=>aL<|aV<|aA Z ?_;refine aB (Ce (r:=Value.agg #[vS (a),vI (3:Int),vI (0:Int),vI (0:Int),vI (0:Int),vI (0:Int)]) Z Z (by intro w;simp[Instr.build,Instr.fill,fD,eD,dJ,fE,fF,eF,gK])) Z ?_;refine bT 0 (vs:=[vS (a),vI (3:Int),vI (0:Int),vI (0:Int),vI (0:Int),vI (0:Int)]) Z Z Z Z Z Z<|aL<|aU ?_;cases h;exact iB () Z Z (RV.cell 0 Z Z Z Z) .nil aF.nil
def Gk (U:Nat)  : Option YG:=
 Option.bind (wS U (ByteArray.mk #[100]) (0:Int) (1:Int) (0:Int)) λa=>(Option.bind (zR U (ByteArray.mk #[112])) λb=>(some ([(a.1,a.2.1,a.2.2.1,a.2.2.2.1,a.2.2.2.2.1,a.2.2.2.2.2),(b.1,b.2.1,b.2.2.1,b.2.2.2.1,b.2.2.2.2.1,b.2.2.2.2.2)])))
theorem acN:aW Tryz.prog 55:=Tryz.call55
theorem Nw (U:Nat)  (r:YH) (h:Gk U  = some r):
  aX Tryz.prog 55 #[] [] (λx:Value=>x) (λx l=>Ar iI x r::l) (λ_ l=>l):=by
 refine aX.of Tryz.func55 Z Tryz.ntmps55 Z λc=>?_;refine aV<|aD Z<|aL<|aV<|fH h λa f h=>aH (aM.callQ Wk (D_ U  a f) Z .nil) Z λi=>fH h λb g h=>aH (aM.callQ ac_ (Iv U  b g) Z .nil) Z λj=>aH (bW (e:=iI) ([((a.1,a.2.1,a.2.2.1,a.2.2.2.1,a.2.2.2.2.1,a.2.2.2.2.2)),((b.1,b.2.1,b.2.2.1,b.2.2.2.1,b.2.2.2.2.1,b.2.2.2.2.2))]) [(0,Value.agg #[vS (a.1),vI (a.2.1),vI (a.2.2.1),vI (a.2.2.2.1),vI (a.2.2.2.2.1),vI (a.2.2.2.2.2)]),(1,Value.agg #[vS (b.1),vI (b.2.1),vI (b.2.2.1),vI (b.2.2.2.1),vI (b.2.2.2.2.1),vI (b.2.2.2.2.2)])] Z Z Z Z (JS (vS (a.1)) (vI (a.2.1)) (vI (a.2.2.1)) (vI (a.2.2.2.1)) (vI (a.2.2.2.2.1)) (vI (a.2.2.2.2.2)) (vS (b.1)) (vI (b.2.1)) (vI (b.2.2.1)) (vI (b.2.2.2.1)) (vI (b.2.2.2.2.1)) (vI (b.2.2.2.2.2))) Z Z Z) Z λd=>aD Z<|aL<|aU ?_;cases h;exact iB (d) Z Z (RV.tmp Z) (a_.refl _) aF.nil
def fG (U:Nat) (a:Di) (d:Int):Option tA:=
 Option.bind (mW U ((a.1,a.2.1,a.2.2.1,a.2.2.2.1,a.2.2.2.2.1,a.2.2.2.2.2)) d) λb=>(Option.bind (mY U ((a.1,a.2.1,a.2.2.1,a.2.2.2.1,a.2.2.2.2.1,a.2.2.2.2.2)) ((b.1,b.2))) λc=>(some ((c.1,c.2))))
theorem afP:aW Tryz.prog 7:=Tryz.call7
theorem BY (U:Nat) {a:Di} {o:Int} (d:Value)  (e:Value)  (f:Value) (r:EW) (h:fG U a o=some r):
  aX Tryz.prog 7 #[Value.agg #[vI (a.1),d,e,f,vB (a.2.2.2.2.1),vB (a.2.2.2.2.2)],vI (o)] [Sl bN d a.2.1,Sl bN e a.2.2.1,Sl bN f a.2.2.2.1] (λx:Value×Value×List Value=>Value.agg #[x.1,x.2.1]) (λx l=>Ar cC x.1 r.1::Ar cY.raw x.2.1 x.2.2::kX b_ x.2.2 r.2::l) (λ_ l=>l):=by
 refine aX.of Tryz.func7 Z Tryz.ntmps7 Z λc=>?_;refine aV<|aH (aM.box (cs:=[vI (a.1),d,e,f,vB (a.2.2.2.2.1),vB (a.2.2.2.2.2)]) Z Z) Z λp=>aH (aM.alloc (cs:=[k_,k_]) Z Z) Z λq=>aL<|aJ ?_;refine JR.start [0,0,0,6,15,31] 4 mixedOrders (by decide +kernel) ?_;refine JR.open (by exact rfl) ?_;refine pY 1 Z<|pY 1 Z<|bH Z<|fH h λn t h=>JR.loud Z Z Z (aM.callQ Wj (AU U d e f n t) Z (pO [0,1,2] Z)) Z (λb=>(v_ [([4],[])] Z)) λb=>bP 4 Z Z<|fH h λs u h=>aH (EZ (Min:=[Ar cC b.1 n.1,Ar cY.raw b.2.1 b.2.2,kX b_ b.2.2 n.2]) (Mr:=[bU q [k_,k_] 29,bU p [vI (a.1),d,e,f,vB (a.2.2.2.2.1),vB (a.2.2.2.2.2)] 24]) acD (FA U d e f b.1 b.2.1 b.2.2 s u) Z (a_.refl _) (pO [0,1,2] Z) (λ_ _=>rfl)) Z λk=>bZ (Know.one ((bB (aE.res 0 Z) dM))) λm=>bZ (Know.one (aE.sl (bO (i:=1) (j:=2) Z Z bQ))) λg=>bT 3 (vs:=[k.1,k.2.1]) Z Z (kY m (kY g Z)) Z Z Z<|aL<|aU ?_;cases h;exact iB (k.1,k.2.1,k.2.2) Z Z (RV.cell 3 Z Z Z Z) (a_.ix [0,1,2] Z Z) aF.nil
def jM (U:Nat) (a:cQ) (b:Int):Option (Int):=
 Option.bind (rF U ((a.1,a.2)) b) λc=>(Option.bind (pP U c) λd=>(some (d)))
theorem afQ:aW Tryz.prog 8:=Tryz.call8
theorem DZ (U:Nat) {d:cQ} {e:Int} (a:Value)  (b:Value)  (f:lX) (r:Int) (h:jM U d e=some r):
  aX Tryz.prog 8 #[Value.agg #[a,b],vI (e)] [Sl bN a d.1,S2 bD b f d.2] (λx:Unit=>vI (r)) (λx l=>l) (λ_ l=>l):=by
 refine aX.of Tryz.func8 Z Tryz.ntmps8 Z λc=>?_;refine aV<|aH (aM.box (cs:=[a,b]) Z Z) Z λn=>aD Z<|aL<|aV<|eT 0 Z<|aA Z<|fH h λg j h=>aH (aM.callQ acF (GI U a b f g j) Z (pO [0,1] Z)) Z λm=>fH h λi k h=>aH (aM.callQ acE (HG U m i k) Z (aF.cons (bB (aE.res 0 Z) dM) .nil)) Z λo=>aD Z<|aL<|aU ?_;cases h;exact tO Z
def zD (U:Nat) (a:cQ):Option (Int):=
 ck (0<=(List.length a.1:Int)) (some (wI .u32 ((vC .u32 (1:Int) (List.length a.1:Int)) - (1:Int))))
theorem acZ:aW Tryz.prog 80:=Tryz.call80
theorem PN (U:Nat) {a:cQ} (b:Value)  (d:Value)  (f:lX) (r:Int) (h:zD U a=some r):
  aX Tryz.prog 80 #[Value.agg #[b,d]] [Sl bN b a.1,S2 bD d f a.2] (λx:Unit=>vU (r)) (λx l=>l) (λ_ l=>l):=by
 refine aX.of Tryz.func80 Z Tryz.ntmps80 Z λc=>?_;refine aV<|aH (aM.box (cs:=[b,d]) Z Z) Z λg=>aD Z<|aL<|aV<|bS Z<|dC 0 Z<|kB (aE.fact 0 Z) Z<|cX h λe h=>aB (HR Z Z e) Z<|aB (lA Z Z) Z<|aD Z<|aL<|aU ?_;cases h;exact tO Z
def zM  (a:Unit):Option (Int):=
 some (-1:Int)
def uK (c:cQ) (d:Int) (e:Int) (a:Int) (b:(Int)->Option (Int)):Option (Int):=
 if a<(List.length (at' c.2 d):Int)then(ck (0<=a∧a<(List.length (at' c.2 d):Int)) (if((at' (at' c.2 d) a).1)=e then(some (a))else(b (wI .i64 (a+(1:Int))))))else(zM  (()))
def r_ (U:Nat) (b:cQ) (a:Int) (c:Int):Option (Int):=
 ck (0<=a∧a<(List.length b.2:Int)) (bJ (uK b a c) U (0:Int))
theorem adg:aW Tryz.prog 92:=Tryz.call92
theorem Ky (U:Nat) {a:cQ} {b:Int} {i:Int} (j:Value)  (k:Value)  (o:lX) (r:Int) (h:r_ U a b i=some r):
  aX Tryz.prog 92 #[Value.agg #[j,k],vI (b),vI (i)] [Sl bN j a.1,S2 bD k o a.2] (λx:Unit=>vI (r)) (λx l=>l) (λ_ l=>l):=by
 refine aX.of Tryz.func92 Z Tryz.ntmps92 Z λc=>?_;refine aV<|aH (aM.box (cs:=[j,k]) Z Z) Z λq=>aD Z<|aL<|aJ<|dR (λg=>zM  g=some r) (λg m=>[]) (λg m=>[]) ?_ ?_
 ·refine aV<|bS Z<|dC 0 Z<|aA Z<|cX h λe h=>aB (cA Z Z (aE.fact 1 Z) Z Z e) Z<|aB (cF Z (aE.fact 1 Z) Z Z e) Z<|aB (fW Z (aE.el (aE.fact 1 Z) e.1 e.2) Z) Z<|aA Z<|aL<|aS<|dU (uK a b i) (λd n=>[(2,vI (i)),(13,(at' o b).1),(14,vI (List.length (at' a.2 b):Int)),(15,vI (d))]) (λd n=>[]) (0:Int) () h SF .nil ?_;intro s d n h;refine aV<|cM Z<|aL<|aJ ?_;refine eX h Z (λh=>?_) λh=>?_
  ·refine cK<|aJ<|aS<|aV<|aA Z<|cX h λf h=>aB (aY Z Z (aE.el (aE.fact 1 Z) e.1 e.2) Z Z f) Z<|aB (iZ (cs:=[vI ((at' (at' a.2 b) d).1),vI ((at' (at' a.2 b) d).2)]) Z (aE.el (aE.fact 1 Z) e.1 e.2) bQ Z Z Z Z f) Z<|aH (aM.alloc (cs:=Vd) Z Z) Z λp=>aD Z<|bT 0 (vs:=[vI ((at' (at' a.2 b) d).1),vI ((at' (at' a.2 b) d).2)]) Z Z Z Z Z Z<|aL<|aV<|bS Z<|dC 0 Z<|aA Z<|cP Z<|aL ?_;refine eX h Z (λh=>?_) λh=>?_
   ·refine aV<|aA Z<|aD Z<|aL<|aU<|bK<|aI<|aI<|bK<|aI ?_;cases h;exact tO Z
   refine dL<|mI<|aO<|cJ Z<|aA Z<|aL ?_;exact mL (wI .i64 (d+(1:Int))) () h SF .nil (aF.refl _ _)
  refine fC ?_;exact gY () (()) h SF Z
 intro g m h;unfold zM at h;refine aV<|aD Z<|aL<|aU ?_;cases h;exact kH Z
end Go.Proofs.YtmdlcmbplnhdnaaGreatDoor