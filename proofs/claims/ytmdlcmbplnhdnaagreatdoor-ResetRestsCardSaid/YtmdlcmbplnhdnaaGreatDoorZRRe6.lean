/- Models and proofs. Conditions: none. -/
import Derived.Test.YtmdlcmbplnhdnaaGreatDoorZRRe5
import Derived.Test.YtmdlcmbplnhdnaaGreatDoorZRRe4
import Derived.Test.YtmdlcmbplnhdnaaGreatDoorZRRe2
set_option linter.unusedVariables false
set_option linter.unusedSimpArgs false
set_option maxHeartbeats 4000000
set_option maxRecDepth 20000
namespace Go.Gx
open Go Go.Sx Go.RowKit
mutual
def FA (k:Nat):GV->GV
 | .ptr h o=> .ptr (k+h) o
 | .sl h o l s=> .sl (k+h) o l s
 | .map h=> .map (k+h)
 | .fn f a b=> .fn f (TH k a) (TH k b)
 | .agg cs=> .agg (TH k cs)
 | .tup vs=> .tup (TH k vs)
 | .int a b=> .int a b
 | .bool b=> .bool b
 | .str a b=> .str a b
 | .pnil=> .pnil
 | .snil=> .snil
 | .fnil=> .fnil
 | .inil=> .inil
 | .un=> .un
 | .bad=> .bad
 | .opn h=> .opn (k+h)
def TH (k:Nat):List GV->List GV
 | []=>[]
 |v::r=>FA k v::TH k r
end
theorem LP (k:Nat):∀(l:List GV) (i:Nat),(TH k l)[i]? = (l[i]?).map (FA k)
 | [],i=>rfl
 |v::r,0=>rfl
 |v::r,i+1=>by simpa [TH]using LP k r i
theorem DG (k:Nat):∀(l:List GV),(TH k l).length=l.length
 | []=>rfl
 |v::r=>by simp[TH,DG k r]
def Xo (k:Nat):GO->GO
 | .cells cs=> .cells (TH k cs)
 | .mp es=> .mp (es.map λe=>(FA k e.1,FA k e.2))
def Ac (k:Nat) (l:JO):JO:={l with o:=Xo k l.o}
theorem Rl.shift {y e:dD} {k:Nat} (c:∀h l,y h=some l->e (k+h)=some (Ac k l)) {g:GV} {v:Value} (h:Rl y g v):Rl e (FA k g) v:=by
 have d:∀{u:List GV} {j:eW},(∀(i:Nat) g v,u[i]? = some g->j[i]? = some v->Rl e (FA k g) v)->∀(i:Nat) g v,(TH k u)[i]? = some g->j[i]? = some v->Rl e g v:=by
  intro u j D i g v x E;rw[LP]at x;obtain⟨z,A,rfl⟩:=Option.map_eq_some_iff.1 x;exact D i z v A E
 induction h with
 |int a n=>simp only[FA];exact .int a n
 |bool b=>simp only[FA];exact .bool b
 |str s=>simp only[FA];exact .str s
 |ptr t h=>simp only[FA];exact .ptr (l:=Ac k _) t (c _ _ h)
 |pnil=>simp only[FA];exact .pnil
 |sl h C B=>simp only[FA];exact .sl (l:=Ac k _) (c _ _ h) C B
 |snil=>simp only[FA];exact .snil
 |map h=>simp only[FA];exact .map (l:=Ac k _) (c _ _ h)
 |fn f m w o G q r=>simp only[FA];exact .fn f (by rw[DG];exact m) (d q) (by rw[DG];exact o) (d r)
 |fnil=>simp only[FA];exact .fnil
 |inil=>simp only[FA];exact .inil
 |agg m w o p=>simp only[FA];exact .agg (by rw[DG];exact m) (d p) o
 |tup m w p=>simp only[FA];exact .tup (by rw[DG];exact m) (d p)
 |un=>simp only[FA];exact .un
 |bad v=>simp only[FA];exact .bad v
 |opn v h F=>simp only[FA];exact .opn (l:=Ac k _) v (c _ _ h) F

abbrev OL:=List (Nat×Nat×GO)
def TG:OL->Nat->Option (Nat×GO)
 | [],_=>none
 |x::r,h=>if h=x.1 then some x.2 else TG r h
theorem Lz {b:OL} {h:Nat} {p:Nat×GO} (a:TG b h=some p):(h,p)∈b:=by
 induction b with
 |nil=>cases a
 |cons x r c=>
  simp only[TG]at a;split at a
  ·rename_i e;cases a;subst e;exact List.mem_cons_self
  ·exact List.mem_cons_of_mem _ (c a)
noncomputable def NG (k:Nat) (t:Tr (Nat×GO)):OL->Tr (Nat×GO)
 | []=>t
 |x::r=>(NG k t r).set (some (k+x.2.1,Xo k x.2.2)) (k+x.1)
noncomputable def Zi:OL->Tr (Nat×GO)
 | []=> .lf
 |x::r=>(Zi r).set (some x.2) x.1
theorem CU:∀(a:OL) (h:Nat),(Zi a).get h=TG a h
 | [],h=>rfl
 |x::r,h=>by
  show((Zi r).set (some x.2) x.1).get h=_;rw[qL];simp only[TG];split
  ·rfl
  ·exact CU r h
theorem IY (k:Nat) (t:Tr (Nat×GO)):∀(b:OL) (h:Nat),(NG k t b).get h=if k<=h then(match TG b (h - k)with|some p=>some (k+p.1,Xo k p.2)|none=>t.get h)else t.get h
 | [],h=>by simp[NG,TG]
 | x :: r, h => by
  show((NG k t r).set (some (k+x.2.1,Xo k x.2.2)) (k+x.1)).get h=_;rw[qL,IY k t r h];by_cases e:h=k+x.1
  ·subst e;rw[if_pos Z,if_pos (by omega)];simp[TG]
  ·rw[if_neg e];by_cases a:k<=h
   ·rw[if_pos a,if_pos a];simp only[TG];rw[if_neg (show¬h - k=x.1 by omega)]
   ·rw[if_neg a,if_neg a]
noncomputable def HD (n:Nat) (a:OL):GH:=⟨n,Zi a⟩
noncomputable def GH.load (H:GH) (n:Nat) (a:OL):GH:=⟨H.n+n,NG H.n H.t a⟩
section
variable {gs:xM} {w0:dY gs} {w w':World} {ρ ρ2:dD} {H:GH} {n:Nat} {os:OL}
theorem fW {H:GH} {h:Nat} {o:GO}:H.get h=some o↔∃v,H.t.get h=some (v,o):=by
 unfold GH.get;cases c:H.t.get h with
 |none=>simp[ob]
 |some p=>obtain⟨a,b⟩:=p;simp[ob]
theorem qI {H:GH} {h v:Nat}:H.ver h=some v↔∃o,H.t.get h=some (v,o):=by
 unfold GH.ver;cases c:H.t.get h with
 |none=>simp[ob]
 |some p=>obtain⟨a,b⟩:=p;simp[ob]
theorem eT.sub {d:GH} (R:eT w0 ρ H w) (z:d.n=H.n) (m:∀h p,d.t.get h=some p->H.t.get h=some p):eT w0 ρ d w:=by
 have g:∀h o,d.get h=some o->H.get h=some o:=λh o i=>by
  obtain⟨v,j⟩:=fW.1 i;exact fW.2 ⟨v,m _ _ j⟩
 refine⟨R.ext,λh o i=>R.live h o (g h o i),λh q o y l u e f=>R.inj h q o y l u (g _ _ e) (g _ _ f),λh r=>R.fresh h (by omega),λh r=>R.dense h (by omega),λh v l j s=> ?_,R.env⟩
 obtain⟨o,k⟩:=qI.1 j;obtain⟨x,a,b,c⟩:=R.vers h v l (qI.2 ⟨o,m _ _ k⟩) s;refine⟨x,a,b,?_⟩
 have e:=fW.2 ⟨v,k⟩;have f:=g _ _ e;rw[c]at f;cases f;exact e
theorem wH.shift {l:JO} {o:GO} {f:dD} {k:Nat} (d:∀h l,ρ2 h=some l->f (k+h)=some (Ac k l)) (h:wH ρ2 w l o):wH f w (Ac k l) (Xo k o):=by
 cases o with
 |cells z=>
  obtain⟨j,T,r,s,t,y⟩:=h;refine⟨j,T,r,s,by rw[DG];exact t,λi g e=> ?_⟩
  rw[LP]at e;obtain⟨p,q,rfl⟩:=Option.map_eq_some_iff.1 e;obtain⟨v,a,b,c⟩:=y i p q;exact⟨v,a,b.shift d,c⟩
 |mp A=>
  obtain⟨x,u,r,s,t⟩:=h;refine⟨x,u,r,by simpa [Xo]using s,λi g e=> ?_⟩
  rw[List.getElem?_map]at e;obtain⟨p,q,rfl⟩:=Option.map_eq_some_iff.1 e;obtain⟨m,a,b,c⟩:=t i p q;exact⟨m,a,b.shift d,c.shift d⟩
theorem eT.join {Y:xM} {hb:GE Y w λ_=>False} (R:eT w0 ρ H w) (M:eT (dY.of w hb) ρ2 (HD n os) w'):
  ∃s:dD,ρ.le s∧eT w0 s (H.load n os) w'∧∀g v,Rl ρ2 g v->Rl s (FA H.n g) v:=by
 let s:dD:=λh=>if h<H.n then ρ h else(ρ2 (h - H.n)).map (Ac H.n);have G:ρ.le s:=λh l f=>by
  have ac:h<H.n:=by
   rcases Nat.lt_or_ge h H.n with q|q
   ·exact q
   ·rw[R.fresh h q]at f;cases f
  show(if h<H.n then ρ h else _)=_;rw[if_pos ac];exact f
 have K:∀h l,ρ2 h=some l->s (H.n+h)=some (Ac H.n l):=λh l f=>by
  show(if H.n+h<H.n then _ else _)=_;rw[if_neg (by omega),show H.n+h - H.n=h by omega,f];rfl
 have k:∀h,h<H.n->s h=ρ h:=λh u=>by show(if h<H.n then ρ h else _)=_;rw[if_pos u]
 have d:∀h,H.n<=h->s h=(ρ2 (h - H.n)).map (Ac H.n):=λh u=>by show(if h<H.n then ρ h else _)=_;rw[if_neg (by omega)]
 have J:∀h,H.n<=h->H.t.get h=none:=λh u=>by
  cases y:H.t.get h with
  |none=>rfl
  |some p=>exact absurd (R.lt (fW.2 ⟨p.1,y⟩)) (by omega)
 have X:∀h,h<H.n->(H.load n os).t.get h=H.t.get h:=λh u=>by
  show(NG H.n H.t os).get h=_;rw[IY,if_neg (by omega)]
 have gh:∀h p,H.n<=h->(H.load n os).t.get h=some p->∃x,(HD n os).t.get (h - H.n)=some x∧p=(H.n+x.1,Xo H.n x.2):=λh p u hp=>by
  have A:(NG H.n H.t os).get h=some p:=hp;rw[IY,if_pos u,J h u]at A;cases hk:TG os (h - H.n)with
  |none=>rw[hk]at A;cases A
  |some x=>rw[hk]at A;cases A;exact⟨x,(CU os _).trans hk,rfl⟩
 have W:KN w w':=M.ext.ext;have L:∀l:JO,(dY.of w hb).mine l.b->w.heap.size<=l.b:=λl h=>by
  rcases h with h|h
  ·exact h
  ·exact h.elim
 have r:∀h o,h<H.n->(H.load n os).get h=some o->∃l,ρ h=some l∧w0.mine l.b∧wH ρ w l o∧H.get h=some o:=λh o u y=>by
  obtain⟨v,N⟩:=fW.1 y;rw[X h u]at N;have z:=fW.2 ⟨v,N⟩;obtain⟨l,a,b,c⟩:=R.live h o z;exact⟨l,a,b,c,z⟩
 have m:∀h o,H.n<=h->(H.load n os).get h=some o->∃l O,ρ2 (h - H.n)=some l∧w.heap.size<=l.b∧wH ρ2 w' l O∧o=Xo H.n O∧(HD n os).get (h - H.n)=some O:=λh o u y=>by
  obtain⟨v,N⟩:=fW.1 y;obtain⟨x,E,e⟩:=gh h _ u N;cases e;have z:(HD n os).get (h - H.n)=some x.2:=fW.2 ⟨x.1,E⟩;obtain⟨l,a,b,c⟩:=M.live _ _ z;exact⟨l,x.2,a,L l b,c,rfl,z⟩
 refine⟨s,G,⟨R.ext.trans W,λh o y=> ?_,λh B o U l l' V E f j F=> ?_,λh u=> ?_,λh u=> ?_,λh v l N f=> ?_,λi v e=>let ⟨l,a,b⟩:=R.env i v e;⟨l,G _ _ a,b⟩⟩,λg v y=>y.shift K⟩
 ·rcases Nat.lt_or_ge h H.n with q|q
  ·obtain⟨l,a,b,c,_⟩:=r h o q y;exact⟨l,by rw[k h q];exact a,b,c.move G (W.block _ c.lt)⟩
  ·obtain⟨l,O,a,b,c,rfl,_⟩:=m h o q y;exact⟨Ac H.n l,by rw[d h q,a];rfl,.inl (Nat.le_trans R.ext.size b),c.shift K⟩
 ·rcases Nat.lt_or_ge h H.n with q|q<;>rcases Nat.lt_or_ge B H.n with I|I
  ·obtain⟨l1,C,_,_,P⟩:=r h o q V;obtain⟨T,D,_,_,Q⟩:=r B U I E;rw[k h q,C]at f;rw[k B I,D]at j;cases f;cases j;exact R.inj h B o U _ _ P Q C D F
  ·obtain⟨l1,C,_,c1,P⟩:=r h o q V;obtain⟨T,O,D,b2,_,rfl,Q⟩:=m B U I E;rw[k h q,C]at f;rw[d B I,D]at j;cases f;cases j;have:=c1.lt;simp only[Ac]at F;omega
  ·obtain⟨l1,o1,C,b1,_,rfl,P⟩:=m h o q V;obtain⟨T,D,_,c2,Q⟩:=r B U I E;rw[d h q,C]at f;rw[k B I,D]at j;cases f;cases j;have:=c2.lt;simp only[Ac]at F;omega
  ·obtain⟨l1,o1,C,b1,_,rfl,P⟩:=m h o q V;obtain⟨T,O,D,b2,_,rfl,Q⟩:=m B U I E;rw[d h q,C]at f;rw[d B I,D]at j;cases f;cases j;have:=M.inj _ _ _ _ _ _ P Q C D F;omega
 ·have aa:H.n+n<=h:=u;rw[d h (by omega),M.fresh (h - H.n) (by show n<=_;omega)];rfl
 ·have aa:h<H.n+n:=u;rcases Nat.lt_or_ge h H.n with q|q
  ·obtain⟨l,f⟩:=R.dense h q;exact⟨l,by rw[k h q];exact f⟩
  ·obtain⟨l,f⟩:=M.dense (h - H.n) (by show _<n;omega);exact⟨Ac H.n l,by rw[d h q,f];rfl⟩
 ·obtain⟨o,S⟩:=qI.1 N;rcases Nat.lt_or_ge h H.n with q|q
  ·rw[X h q]at S;rw[k h q]at f;obtain⟨lv,a,b,c⟩:=R.vers h v l (qI.2 ⟨o,S⟩) f;have y:=fW.2 ⟨v,S⟩;obtain⟨l',j,_,ck⟩:=R.live h o y;rw[f]at j;cases j;refine⟨lv,G _ _ a,by rw[W.block _ ck.lt];exact b,?_⟩
   obtain⟨v2,ad⟩:=fW.1 c;exact fW.2 ⟨v2,by rw[X h q];exact ad⟩
  ·obtain⟨x,E,e⟩:=gh h _ q S;cases e;rw[d h q]at f;obtain⟨T,ab,rfl⟩:=Option.map_eq_some_iff.1 f;obtain⟨lv,a,b,c⟩:=M.vers (h - H.n) x.1 T (qI.2 ⟨x.2,E⟩) ab;refine⟨Ac H.n lv,K _ _ a,b,?_⟩
   have h3:(HD n os).get (h - H.n)=some x.2:=fW.2 ⟨x.1,E⟩;rw[c]at h3;have h4:=Option.some.inj h3;exact fW.2 ⟨_,by rw[S,<-h4];rfl⟩
end

theorem Vh {a b:Nat×Nat} (h:Ox a b=true):a=b:=by
 obtain⟨f,d⟩:=a;obtain⟨g,e⟩:=b;unfold Ox at h;cases c:Nat.beq d e with
 |false=>simp[c]at h
 |true=>
  simp only[c,cond_true]at h;rw[Nat.eq_of_beq_eq_true h,Nat.eq_of_beq_eq_true c]
theorem PT {c:dD} {n l:Nat} {x:ByteArray} (a:n=kO (bF x)) (b:l=(bF x).length):Rl c (.str n l) (.string x):=by
 rw[a,b];exact .str x
def isS (a:List GV) (p:Nat×Nat):Bool:=List.casesOn (motive:=λ_=>Bool) a false λu r=>List.casesOn (motive:=λ_=>Bool) r (Option.casesOn (motive:=λ_=>Bool) (GV.asStr u) false λs=>Ox s p) λ_ _=>false
theorem VJ {b:List GV} {p:Nat×Nat} (h:isS b p=true):b=[.str p.1 p.2]:=by
 cases b with
 |nil=>cases h
 | cons u r =>
  cases r with
  |cons _ _=>cases h
  | nil =>
   cases a:GV.asStr u with
   |none=>simp[isS,a]at h
   |some s=>
    have:Ox s p=true:=by simpa [isS,a]using h
    rw[oE a,Vh this]
noncomputable section
def Wm (H:GH) (a:List Nat):Option OL:=List.rec (motive:=λ_=>Option OL) (some []) (λh _ b=>ob (H.t.get h) λp=>ob b λr=>some ((h,p.1,p.2)::r)) a
theorem Gp {H:GH}:∀{c:List Nat} {b:OL},Wm H c=some b->∀x∈b,H.t.get x.1=some x.2
 | [],b,h,x,a=>by cases h;cases a
 |h0::c,b,h,x,a=>by
  obtain⟨p,d,h⟩:=aB.1 (show ob (H.t.get h0) (λp=>ob (Wm H c) λr=>some ((h0,p.1,p.2)::r))=some b from h);obtain⟨r,e,h⟩:=aB.1 h;cases h;rcases List.mem_cons.1 a with rfl|a
  ·exact d
  ·exact Gp e x a
def Rk (T:ER) (G:GP) (a f:Nat) (d:List GV) (b:List Nat):Option (GV×Nat×OL):=ob (Ik T G a f d H0) λr=>ob (Wm r.2 b) λc=>some (r.1,r.2.n,c)
def shK {R:Type} (k:Nat) (v:GV) (f:GV->R):R:=GV.casesOn (motive_1:=λ_=>R) v (λa b=>f (.int a b)) (λb=>f (.bool b)) (λa b=>f (.str a b)) (λh o=>sn (Nat.add k h) λh=>f (.ptr h o)) (f .pnil) (λh o l s=>sn (Nat.add k h) λh=>f (.sl h o l s)) (f .snil) (λh=>sn (Nat.add k h) λh=>f (.map h)) (λa b c=>f (FA k (.fn a b c))) (f .fnil) (f .inil) (λd=>f (FA k (.agg d))) (λe=>f (FA k (.tup e))) (f .un) (f .bad) (λh=>sn (Nat.add k h) λh=>f (.opn h))
theorem WB {R:Type} (k:Nat) (v:GV) (f:GV->R):shK k v f=f (FA k v):=by
 cases v<;>simp[shK,uP,FA]
def abW {R:Type} (k:Nat) (l:List GV):(List GV->R)->R:=List.rec (motive:=λ_=>(List GV->R)->R) (λf=>f []) (λx _ a f=>shK k x λy=>a λr=>f (y::r)) l
theorem RI {R:Type} (k:Nat):∀(l:List GV) (f:List GV->R),abW k l f=f (TH k l)
 | [],f=>rfl
 |x::l,f=>by
  show shK k x (λy=>abW k l λr=>f (y::r))=_;rw[WB,RI k l];rfl
def abX {R:Type} (k:Nat) (o:GO) (f:GO->R):R:=GO.casesOn (motive:=λ_=>R) o (λa=>abW k a λa=>f (.cells a)) (λb=>f (Xo k (.mp b)))
theorem Zo {R:Type} (k:Nat) (o:GO) (f:GO->R):abX k o f=f (Xo k o):=by
 cases o with
 |cells a=>exact RI k a _
 |mp b=>rfl
def abL {R:Type} (k:Nat) (t:Tr (Nat×GO)) (b:OL):(Tr (Nat×GO)->R)->R:=List.rec (motive:=λ_=>(Tr (Nat×GO)->R)->R) (λf=>f t) (λx _ a f=>a λt=>sn (Nat.add k x.2.1) λv=>sn (Nat.add k x.1) λh=>abX k x.2.2 λo=>t.setK (some (v,o)) h f) b
theorem Ry {R:Type} (k:Nat) (t:Tr (Nat×GO)):∀(a:OL) (f:Tr (Nat×GO)->R),abL k t a f=f (NG k t a)
 | [],f=>rfl
 |x::a,f=>by
  show abL k t a (λt=>sn (Nat.add k x.2.1) λv=>sn (Nat.add k x.1) λh=>abX k x.2.2 λo=>t.setK (some (v,o)) h f)=_;rw[Ry k t a];simp only[uP,Zo,Bp];rfl
def Nq (g:GV) (n:Nat) (a:OL) (H:GH):Option (GV×GH):=sn H.n λk=>shK k g λg=>abL k H.t a λt=>sn (Nat.add k n) λm=>some (g,⟨m,t⟩)
theorem VY (g:GV) (n:Nat) (a:OL) (H:GH):Nq g n a H=some (FA H.n g,H.load n a):=by
 unfold Nq;simp only[uP,WB,Ry];rfl
theorem Rm {P:Program} {T:ER} {G:GP} {gs gs2:xM} (j:gs2.obs=gs.obs) (d:gs2.env=[]) (M:HY T G.tab) (L:∀m:dY gs2,Sb P G T.fns m) {a f n:Nat} {y:List GV} {z:List Value} {O:List Nat} {g:GV} {c:OL} (i:Rk T G a f y O=some (g,n,c)) (C:aR P f)
  {m:dY gs} {w:World} {F:dD} {H o:GH} {B:GV} (Q:nN (λ_=>none) y z) (h:Nq g n c H=some (B,o)) (R:eT m F H w):jM P m F f z w B o:=by
 rw[VY]at h;cases h;obtain⟨r,D,i⟩:=aB.1 (show ob (Ik T G a f y H0) _=some (g,n,c)from i);obtain⟨S,s,i⟩:=aB.1 i;cases i;rw[EY M]at D;have b:GE gs2 w λ_=>False:=λp t=>⟨(R.glo p (j▸t)).1,id⟩
 rcases EX L (H':=r.2) (g:=r.1) D (eT.start (dY.of w b) d) Q with⟨v,E,l,k,_⟩|⟨_,N⟩
 ·have:=C z.toArray w;rw[show(dY.of w b).w=w from rfl,this]at k;cases k
 ·refine .inr ⟨C _ w,N.mono ?_⟩;rintro e E ⟨v,A,rfl,_,I,u⟩;have J:eT (dY.of w b) A (HD r.2.n c) E:=I.sub Z λh p t=>by
   have:TG c h=some p:=(CU c h).symm.trans t;exact Gp s _ (Lz this)
  obtain⟨l,q,K,x⟩:=R.join J;exact⟨v,l,rfl,q,K,x _ _ u⟩
theorem Td {P:Program} {T:ER} {G:GP} {gs:xM} (y:HY T G.tab) (x:∀H:dY gs,Sb P G T.fns H) {a f n:Nat} {m:List GV} {o:List Value} {D:List Nat} {g:GV} {j:OL} (d:Rk T G a f m D=some (g,n,j)) (z:aR P f)
  (E:nN (λ_=>none) m o) (B:gs.env=[]) (b:dY gs):Calls P f o.toArray b.w λe q=>∃v c,e = .returned v∧eT b c (HD n j) q∧Rl c g v:=by
 obtain⟨r,t,d⟩:=aB.1 (show ob (Ik T G a f m H0) _=some (g,n,j)from d);obtain⟨F,k,d⟩:=aB.1 d;cases d;rw[EY y]at t;rcases EX x (H':=r.2) (g:=r.1) t (eT.start b B) E with⟨v,q,c,i,_⟩|⟨_,A⟩
 ·have:=z o.toArray b.w;rw[this]at i;cases i
 ·refine A.mono ?_;rintro e q ⟨v,s,rfl,_,u,l⟩;exact⟨v,s,rfl,u.sub Z λh p C=>by
   have:TG j h=some p:=(CU j h).symm.trans C;exact Gp k _ (Lz this),l⟩
end
theorem PH {P:Program} {gs:Nat->xM} {L:List aW} (D:∀w S,(∀h∈L,h.p w S)->∃T,GE (gs T) w λ_=>False) {f n:Nat} {z:List Value} {g:GV} {y:OL}
  (h:∀T (b:dY (gs T)),Calls P f z.toArray b.w λe s=>∃v c,e = .returned v∧eT b c (HD n y) s∧Rl c g v) {A:Type} {o:A->Value} {LO:A->List aW}
  (d:∀T (b:dY (gs T)) (B:dD) (w:World) (V:Value),(∀k,b.mine k->b.w.heap.size<=k)->eT b B (HD n y) w->Rl B g V->∃x:A,V=o x∧∀q∈LO x,q.p w (λk=>b.w.heap.size<=k)):
  aV P f z.toArray L o (λ_ l=>l) (λx l=>LO x++l):=by
 intro t C H;obtain⟨T,u⟩:=D t C H;refine(h T (.of t u)).mono ?_;rintro e s ⟨v,c,rfl,R,G⟩;obtain⟨x,rfl,F⟩:=d T (.of t u) c s v (λk r=>r.elim id False.elim) R G;refine⟨x,rfl,R.ext,λ_ _=>False,⟨λi m E=>by simp at E,λi k h=>h.elim,λi j k h=>h.elim⟩,λq a=> ?_⟩
 have a:q∈LO x++[]:=a;rw[List.append_nil]at a;exact aW.wide (F q a) (λk r=>⟨.inr (.inl r),λi h=>h.elim⟩)

noncomputable def He (s:ByteArray):Nat×Nat:=(kO (bF s),(bF s).length)
theorem Nc {a b:ByteArray} (h:He a=He b):a=b:=by
 have c:=Vg a b;unfold He at h;rw[h]at c;have e:Ox (kO (bF b),(bF b).length) (kO (bF b),(bF b).length)=true:=by simp[Ox]
 rw[e]at c;have d:a.toList=b.toList:=eq_of_beq c.symm;rw[Lib.toList_data,Lib.toList_data]at d;obtain⟨⟨x⟩⟩:=a;obtain⟨⟨y⟩⟩:=b;simp only at d;rw[d]
noncomputable def abd (a:List GV):Option (Nat×Nat):=List.casesOn (motive:=λ_=>Option (Nat×Nat)) a none λc r=>List.casesOn (motive:=λ_=>Option (Nat×Nat)) r c.asStr λ_ _=>none
abbrev abP:dZ ByteArray:=⟨1,Nat.one_pos,λ_ _ a x=>a=[.string x],λh=>by simp[h],λh _=>h⟩
theorem gH.str {S:Nat->Prop} {g:dD} {w:World}:gH S g w abd abP He:=λgs f y a h _=>by
 cases gs with
 |nil=>cases h
 |cons c gs=>
 cases gs with
 |cons _ _=>cases h
 |nil=>
 have h:c.asStr=some y:=h;obtain⟨v,f,rfl,b,a⟩:=a.of_cons;rw[a.of_nil];rw[oE h]at b;obtain⟨x,rfl,d,e⟩:=b.str_inv;exact⟨x,by unfold He;rw[<-d,<-e],rfl⟩
theorem Zr {c:dD} {V:Value} {n l:Nat} {s:ByteArray} (h:Rl c (.str n l) V) (e:He s=(n,l)):V = .string s:=by
 obtain⟨x,rfl,a,b⟩:=h.str_inv;have:He x=He s:=by rw[e];unfold He;rw[<-a,<-b]
 rw[Nc this]
theorem IJ {c:Type}:∀a b:c,id a=id b->a=b:=λ_ _ h=>h
theorem CO {c d e i:Type} {f:c->e} {g:d->i} (j:∀a b,f a=f b->a=b) (k:∀a b,g a=g b->a=b):∀a b:c×d,(λz:c×d=>(f z.1,g z.2)) a=(λz:c×d=>(f z.1,g z.2)) b->a=b:=λa b h=>by
 obtain⟨l,m⟩:=a;obtain⟨n,o⟩:=b;simp only[Prod.mk.injEq]at h;rw[j _ _ h.1,k _ _ h.2]
theorem IN {g i:Type} {f:g->i} (e:∀a b,f a=f b->a=b):∀{c d:List g},c.map f=d.map f->c=d
 | [],[],_=>rfl
 | [],_::_,h=>by simp at h
 |_::_,[],h=>by simp at h
 |a::c,b::d,h=>by
  simp only[List.map_cons,List.cons.injEq]at h;rw[e _ _ h.1,IN e h.2]
end Go.Gx
section
set_option maxRecDepth 100000
namespace Go.Gx
open Go Go.Sx Go.Proofs Go.Proofs.YtmdlcmbplnhdnaaGreatDoor
def yC (l:oY):List GV:=l.map λn=> .int .i64 (.ofNat n)
abbrev SV:Nat:=62612022078668281795505554093363622559854195865949253215105900396045672359969877880166549174032343132993734957765569202214538907514566311350427701009544032694847337705793280154083690688451269616688782133795410379376928705130345296445151552924450334836917827234573469831105668184247309683323748037249326305257450566500613104582596739355858495108587194514699348039550352061107652063950585699432193800786308390540153052463342825471615451497403378237530695269756800903089344746135921082798862585170912282432061314226997690214573863871773160495090950365393003392302336199511227963345777762340303723847551010267882950244475187531638497589816884840746003832656122559568072415127281877587919955134951848720898362784721630179183632514071187737718801766045181382178059597531935953865739058317213402067112106178269539818406468794623567714368406699984352401615611648009540554670638379077003046691601651659503488023036016650041344236444492625067110609540290467946795853434537583557082408411183186533670519462632865144031819183310381452310956185194634675703732849182713820334837695243446565596654286740386031565011357996399800921820918955437335624617843094112596863701508946442457135114386851122925397296113071978999231011209672540734656076492347048890983156526043032785285927167596865683405763291449118335047510792439178363711784660496025932951555546329846668545661249500619781993860494368395467151808107769959479474456951167188694307489519361853029722953071634727739222067984252267479508130870821814111526873691367656719627636282162632229619012164283959600299915921951610829461135327475232013270964287406921117221047932843602716792612622967992944
def mu0:List GV:=[.str SV 679]
def mg0:GV:=(.tup [(.sl 2567 0 301 4),(.int .i64 (.ofNat 0)),(.int .i64 (.ofNat 0))])
def mo0:OL:=[(2567,2567,.cells (yC [1,0,7,0,1,8,13,0,3,13,14,0,1,15,18,0,1,19,20,0,3,21,22,0,2,23,24,0,3,25,27,0,1,28,29,0,3,29,30,0,1,31,34,0,1,35,36,0,3,37,38,0,1,39,43,0,3,43,44,0,1,45,48,0,1,49,50,0,3,51,52,0,1,53,57,0,3,57,58,0,1,59,62,0,1,63,64,0,3,65,66,0,1,67,71,0,3,71,72,0,1,73,76,0,1,77,78,0,3,79,80,0,2,81,82,0,3,83,85,0,2,86,87,3,3,87,88,0,1,89,92,0,1,93,94,0,3,95,96,0,1,97,101,0,3,101,102,0,1,103,107,0,1,108,111,0,3,111,112,0,1,113,117,0,3,118,120,0,3,121,122,0,1,122,123,0,3,124,126,0,2,127,128,0,3,129,131,0,1,132,133,0,3,134,136,0,1,137,141,0,3,141,142,0,3,143,145,0,1,146,147,0,3,148,150,0,2,151,152,0,3,152,153,0,1,154,155,0,3,156,158,0,1,159,163,0,3,163,164,0,1,165,169,0,1,170,173,0,3,173,174,0,3,175,176,0,1,176,180,0,3,181,183,0,3,184,185,0,1,185,186,0,3,187,189,0,3,190,191,0,1,191,194,0,3,194,195,0,1,195,196,0,3,196,197,0,1,197,198,0,3,198,199,0,3,200,201,0,1,202,203,0,3,204,205,0,1,206,209,0,3,209,210,0,1,210,211,0,3,211,212,0,1,212,213,0,3,213,214,0,3,215,216,0,2,217,218,1,3,219,220,0,1,221,222,0,3,222,223,0,3,224,226,0,1,227,228,0,3,229,231,0,1,232,237,0,3,237,238,0,1,238,239,0,3,239,240,0,1,240,241,0,3,242,244,0,1,245,248,0,3,248,249,0,1,249,250,0,3,250,251,0,1,251,252,0,3,252,253,0,3,253,254,0,3,254,255,0,3,258,260,0,1,261,262,0,3,263,265,0,3,266,267,0,1,267,270,0,3,270,271,0,1,271,272,0,3,272,273,0,1,273,274,0,3,274,275,0,3,276,277,0,1,278,279,0,3,280,281,0,1,282,285,0,3,285,286,0,1,286,287,0,3,287,288,0,1,288,289,0,3,289,290,0,3,291,292,0,2,293,294,1,3,295,296,0,1,297,298,0,3,298,299,0,3,299,300,0,1,301,302,0,3,303,305,0,1,306,311,0,3,311,312,0,1,312,313,0,3,313,314,0,1,314,315,0,3,316,318,0,1,319,322,0,3,322,323,0,1,323,324,0,3,324,325,0,1,325,326,0,3,326,327,0,3,327,328,0,3,328,329,0,1,330,334,0,1,335,340,0,3,340,341,0,1,342,346,0,3,347,349,0,3,350,351,0,1,351,352,0,3,353,355,0,1,356,357,0,3,358,360,0,1,361,362,0,3,363,365,0,1,366,370,0,3,370,371,0,1,372,373,0,3,374,376,0,3,377,378,0,1,378,379,0,3,379,380,0,1,381,382,0,3,383,385,0,2,386,387,0,3,387,388,0,1,389,390,0,3,391,393,0,1,394,399,0,3,399,400,0,1,401,405,0,1,406,410,0,3,410,411,0,3,412,413,0,1,413,417,0,3,418,420,0,1,421,425,0,3,425,426,0,1,426,427,0,3,428,430,0,1,431,432,0,3,433,435,0,3,436,437,0,1,437,438,0,3,438,439,0,1,439,440,0,3,441,443,0,1,444,445,0,3,446,448,0,1,449,450,0,3,451,453,0,3,454,455,0,1,455,456,0,3,456,457,0,1,457,458,0,3,458,459,0,3,459,460,0,3,461,463,0,1,464,465,0,3,466,468,0,1,469,473,0,3,473,474,0,1,474,475,0,3,476,478,0,1,479,480,0,3,481,483,0,1,484,485,0,3,485,486,0,1,486,487,0,3,487,488,0,3,488,489,0,1,490,491,0,3,492,494,0,1,495,499,0,3,499,500,0,1,500,501,0,3,502,504,0,1,505,506,0,3,507,509,0,1,510,511,0,3,511,512,0,1,512,513,0,3,513,514,0,3,514,515,0,1,516,517,0,3,518,520,0,2,521,522,0,3,522,523,0,1,524,525,0,3,526,528,0,1,529,534,0,3,534,535,0,1,536,540,0,1,541,547,0,3,547,548,0,1,549,550,0,3,551,553,0,1,554,557,0,3,557,558,0,1,558,559,0,3,559,560,0,1,560,561,0,3,562,564,0,1,565,566,0,3,566,567,0,1,567,571,0,3,572,574,0,3,575,576,0,1,576,577,0,3,577,578,0,1,578,579,0,3,580,582,0,1,583,584,0,3,584,585,0,1,585,586,0,3,587,589,0,1,590,591,0,3,591,592,0,3,593,595,0,1,596,597,0,3,598,600,0,1,601,606,0,3,606,607,0,1,608,612,0,1,613,616,0,3,616,617,0,3,618,619,0,1,619,620,0,3,621,623,0,3,624,625,0,1,625,626,0,3,627,629,0,1,630,634,0,3,634,635,0,1,635,636,0,3,636,637,0,1,637,638,0,3,639,641,0,1,642,643,0,3,643,644,0,1,644,648,0,3,649,651,0,1,652,653,0,3,653,654,0,1,654,655,0,3,656,658,0,3,659,660,0,1,660,661,0,3,661,662,0,1,662,663,0,3,663,664,0,3,665,667,0,1,668,669,0,3,670,672,0,1,673,677,0,3,677,678,0]))]
set_option maxHeartbeats 4000000 in
theorem me0:Rk Gs gp 4000 71 mu0 [2567]=some (mg0,2568,mo0):=by kernel_rfl
noncomputable def IG (f:Nat) (a:List GV) (H:GH):Option (GV×GH):=bif Nat.beq f 71 then(bif isS a (SV,679)then Nq mg0 2568 mo0 H else Vt f a H)else Vt f a H
noncomputable def adN:GP:=⟨uQ,gp.cat,IG,gp.exn⟩
theorem Gf {T:Nat} {k:dY (gl T)} {w:World} {e:dD} {H i:GH} {g:GV} {d:List GV} {j:eW} {f:Nat} (h:IG f d H=some (g,i)) (R:eT k e H w) (a:nN e d j):jM Tryz.prog k e f j w g i:=by
 unfold IG at h;cases b:Nat.beq f 71 with
 |false=>rw[b]at h;exact Lt h R a
 | true =>
  rw[b]at h;cases c:isS d (SV,679)with
  |false=>rw[c]at h;exact Lt h R a
  |true=>
   rw[c]at h;rw[Nat.eq_of_beq_eq_true b];rw[VJ c]at a;obtain⟨V,rfl,n⟩:=a.one;obtain⟨x,rfl,l,m⟩:=n.str_inv;exact Rm (gs:=gl T) (gs2:=gl T) Z Z Fw Vv me0 Tryz.call71 (nN.cons (PT l m) .nil) h R
theorem ZL {T:Nat} (a:dY (gl T)):Sb Tryz.prog adN Gs.fns a:=⟨(Vv a).tab,(Vv a).mixed,(Vv a).fns,λh d w c R b=>Gf h R b,(Vv a).exn,(Vv a).cat⟩
def mu1:List GV:=[.str SV 679]
def mg1:GV:=(.agg [(.str 499918267762 5),(.sl 2815 0 6 6),(.sl 4970 0 6 3)])
def V_:OL:=[(2815,2815,.cells [(.str 100 1),(.int .i64 (.ofNat 1)),(.int .i64 (.ofNat 0)),(.int .i64 (.ofNat 0)),(.int .i64 (.ofNat 1)),(.int .i64 (.ofNat 0)),(.str 112 1),(.int .i64 (.ofNat 3)),(.int .i64 (.ofNat 0)),(.int .i64 (.ofNat 0)),(.int .i64 (.ofNat 0)),(.int .i64 (.ofNat 0)),(.str 115 1),(.int .i64 (.ofNat 2)),(.int .i64 (.ofNat 0)),(.int .i64 (.ofNat 0)),(.int .i64 (.ofNat 0)),(.int .i64 (.ofNat 0)),(.str 98 1),(.int .i64 (.ofNat 2)),(.int .i64 (.ofNat 0)),(.int .i64 (.ofNat 0)),(.int .i64 (.ofNat 0)),(.int .i64 (.ofNat 0)),(.str 121 1),(.int .i64 (.ofNat 1)),(.int .i64 (.ofNat 0)),(.int .i64 (.ofNat 3)),(.int .i64 (.ofNat 0)),(.int .i64 (.ofNat 0)),(.str 114 1),(.int .i64 (.ofNat 2)),(.int .i64 (.ofNat 0)),(.int .i64 (.ofNat 0)),(.int .i64 (.ofNat 0)),(.int .i64 (.ofNat 0))]),
 (2939,2939,.cells (yC [41,0,10,0,42,0,36,0,5,0,1,0,36,0,5,1,4,0])),
 (2965,2965,.cells [(.int .i64 (.ofNat 1)),(.int .i64 (.ofNat 0))]),
 (2998,2998,.cells [(.int .i64 (.ofNat 4)),(.int .i64 (.ofNat 0))]),
 (3006,3006,.cells [(.int .i64 (.ofNat 0)),(.sl 2965 0 1 2),(.int .i64 (.ofNat 1)),(.sl 2998 0 1 2)]),
 (3394,3394,.cells (yC [41,0,19,0,10,0,42,0,36,0,5,0,43,0,37,0,24,0,12,0,6,0,33,0,24,0,12,0,1,1,6,0,36,0,5,1,23,0,35,0,12,0,24,0,12,0])),
 (3575,3575,.cells (yC [43,0,37,0,24,0,12,0,6,0,33,0,24,0,12,0,1,1,6,0])),
 (3701,3701,.cells (yC [23,0,35,0,12,0,24,0,12,0])),
 (3709,3709,.cells [(.int .i64 (.ofNat 0)),(.sl 3575 0 10 2),(.int .i64 (.ofNat 1)),(.sl 3701 0 5 2)]),
 (3798,3798,.cells (yC [41,0,41,0,10,0,19,0,5,2,5,5])),
 (3825,3825,.cells [(.int .i64 (.ofNat 2)),(.int .i64 (.ofNat 0))]),
 (3867,3867,.cells (yC [19,0,5,3])),
 (3899,3899,.cells [(.int .i64 (.ofNat 1)),(.int .i64 (.ofNat 0))]),
 (3932,3932,.cells [(.int .i64 (.ofNat 3)),(.int .i64 (.ofNat 0))]),
 (3940,3940,.cells [(.int .i64 (.ofNat 2)),(.sl 3825 0 1 2),(.int .i64 (.ofNat 3)),(.sl 3867 0 2 2),(.int .i64 (.ofNat 4)),(.sl 3899 0 1 2),(.int .i64 (.ofNat 5)),(.sl 3932 0 1 2)]),
 (4174,4174,.cells (yC [41,0,19,0,10,0,21,0,41,0,35,0,11,0,5,1,42,0,36,0,12,3,5,3,41,0,5,2,19,0,12,2])),
 (4274,4274,.cells (yC [21,0,41,0,35,0,11,0,5,1,12,2])),
 (4380,4380,.cells (yC [21,0,41,0,35,0,11,0,5,1,12,3])),
 (4412,4412,.cells [(.int .i64 (.ofNat 1)),(.int .i64 (.ofNat 0))]),
 (4445,4445,.cells [(.int .i64 (.ofNat 3)),(.int .i64 (.ofNat 0))]),
 (4453,4453,.cells [(.int .i64 (.ofNat 2)),(.sl 4274 0 6 2),(.int .i64 (.ofNat 3)),(.sl 4380 0 6 2),(.int .i64 (.ofNat 4)),(.sl 4412 0 1 2),(.int .i64 (.ofNat 5)),(.sl 4445 0 1 2)]),
 (4664,4664,.cells (yC [41,0,5,2,20,0,42,0,36,0,12,1,17,0,41,0,19,0,12,2,35,0,12,3,5,3])),
 (4691,4691,.cells [(.int .i64 (.ofNat 3)),(.int .i64 (.ofNat 0))]),
 (4699,4699,.cells [(.int .i64 (.ofNat 2)),(.sl 4691 0 1 2)]),
 (4927,4927,.cells (yC [41,0,41,0,19,0,5,2,19,0,5,5,21,0,41,0,41,0,35,0,12,1,17,0,12,5,19,0,12,2])),
 (4954,4954,.cells [(.int .i64 (.ofNat 2)),(.int .i64 (.ofNat 0))]),
 (4962,4962,.cells [(.int .i64 (.ofNat 5)),(.sl 4954 0 1 2)]),
 (4970,4970,.cells [(.str 7368564 3),(.sl 2939 0 9 2),(.sl 3006 0 2 2),(.str 7827308 3),(.sl 3394 0 23 2),(.sl 3709 0 2 2),(.str 474214786402 5),(.sl 3798 0 6 2),(.sl 3940 0 4 2),(.str 1701536116 4),(.sl 4174 0 16 2),(.sl 4453 0 4 2),(.str 114844899371366 6),(.sl 4664 0 13 2),(.sl 4699 0 1 2),(.str 7041889 3),(.sl 4927 0 15 2),(.sl 4962 0 1 2)])]
set_option maxHeartbeats 4000000 in
theorem me1:Rk Gs adN 4000 23 mu1 [2815,2939,2965,2998,3006,3394,3575,3701,3709,3798,3825,3867,3899,3932,3940,4174,4274,4380,4412,4445,4453,4664,4691,4699,4927,4954,4962,4970]=some (mg1,7588,V_):=by kernel_rfl
noncomputable def Pu (f:Nat) (a:List GV) (H:GH):Option (GV×GH):=bif Nat.beq f 23 then(bif isS a (SV,679)then Nq mg1 7588 V_ H else IG f a H)else IG f a H
noncomputable def adO:GP:=⟨uQ,gp.cat,Pu,gp.exn⟩
theorem SS {T:Nat} {k:dY (gl T)} {w:World} {e:dD} {H i:GH} {g:GV} {d:List GV} {j:eW} {f:Nat} (h:Pu f d H=some (g,i)) (R:eT k e H w) (a:nN e d j):jM Tryz.prog k e f j w g i:=by
 unfold Pu at h;cases b:Nat.beq f 23 with
 |false=>rw[b]at h;exact Gf h R a
 | true =>
  rw[b]at h;cases c:isS d (SV,679)with
  |false=>rw[c]at h;exact Gf h R a
  |true=>
   rw[c]at h;rw[Nat.eq_of_beq_eq_true b];rw[VJ c]at a;obtain⟨V,rfl,n⟩:=a.one;obtain⟨x,rfl,l,m⟩:=n.str_inv;exact Rm (gs:=gl T) (gs2:=gl T) Z Z Fw ZL me1 Tryz.call23 (nN.cons (PT l m) .nil) h R
theorem adM {T:Nat} (a:dY (gl T)):Sb Tryz.prog adO Gs.fns a:=⟨(Vv a).tab,(Vv a).mixed,(Vv a).fns,λh d w c R b=>SS h R b,(Vv a).exn,(Vv a).cat⟩
noncomputable abbrev gp2:GP:=adO
theorem agQ {T:Nat} (a:dY (gl T)):Sb Tryz.prog gp2 Gs.fns a:=adM a
end Go.Gx
end
namespace Go.Gx
open Go Go.Sx Go.RowKit
structure Hd (n:Nat) (os:OL) (ρ:dD) (w:World) (S:Nat->Prop):Prop where
 live:∀h o,(HD n os).get h=some o->∃l,ρ h=some l∧S l.b∧wH ρ w l o
 inj:∀h h' o o' l l',(HD n os).get h=some o->(HD n os).get h'=some o'->ρ h=some l->ρ h'=some l'->l.b=l'.b->h=h'
 fresh:∀h,n<=h->ρ h=none
 dense:∀h,h<n->∃l,ρ h=some l
 vers:∀h v l,(HD n os).ver h=some v->ρ h=some l->∃lv,ρ v=some lv∧w.heap[l.b]? = some lv.x∧(HD n os).get h=some lv.o
theorem Hd.mono {n:Nat} {p:OL} {f:dD} {w w':World} {S g:Nat->Prop} (H:Hd n p f w S) (h:∀k,S k->k<w.heap.size->g k∧w'.heap[k]? = w.heap[k]?):Hd n p f w' g:=by
 refine⟨λk o s=> ?_,H.inj,H.fresh,H.dense,λk v l m j=> ?_⟩
 ·obtain⟨l,a,b,c⟩:=H.live k o s;obtain⟨d,e⟩:=h _ b c.lt;exact⟨l,a,d,c.move (dD.le_refl f) e⟩
 ·obtain⟨u,a,b,c⟩:=H.vers k v l m j;obtain⟨o,t⟩:=qI.1 m;obtain⟨x,i,q,r⟩:=H.live k o (fW.2 ⟨v,t⟩);rw[j]at i;cases i;exact⟨u,a,by rw[(h _ q r.lt).2];exact b,c⟩
theorem eT.hd {gs:xM} {b:dY gs} {n:Nat} {d:OL} {ρ:dD} {w:World} {S:Nat->Prop} (R:eT b ρ (HD n d) w) (e:∀k,b.mine k->S k):Hd n d ρ w S:=
 ⟨λh o f=>let ⟨l,a,b,c⟩:=R.live h o f;⟨l,a,e _ b,c⟩,R.inj,R.fresh,R.dense,R.vers⟩
def TM (n:Nat) (b:OL) (g:GV) (V:Value):aW where
 p w S:=∃a,Hd n b a w S∧Rl a g V
 mono:=fun⟨a,h,r⟩ k=>⟨a,h.mono k,r⟩
def Hd.O (n:Nat) (a:OL) (c:dD) (k:Nat):Prop:=∃h o l,(HD n a).get h=some o∧c h=some l∧l.b=k
def Hd.base (n:Nat) (os:OL) (ρ:dD) (w:World):dY noG:=⟨w,Hd.O n os ρ,λ_ h=>absurd h List.not_mem_nil⟩
theorem Hd.rel {n:Nat} {b:OL} {ρ:dD} {w:World} {S:Nat->Prop} (H:Hd n b ρ w S):eT (Hd.base n b ρ w) ρ (HD n b) w:=
 ⟨AX.refl w,λh o d=>let ⟨l,a,_,c⟩:=H.live h o d;⟨l,a,.inr ⟨h,o,l,d,a,rfl⟩,c⟩,H.inj,H.fresh,H.dense,H.vers,λi v e=>by simp[Hd.base,noG]at e⟩
noncomputable def Ec (H:GH) (b:OL):Bool:=List.rec (motive:=λ_=>Bool) true (λx _ a=>Option.casesOn (motive:=λ_=>Bool) (H.ver x.1) false λv=>bif Nat.beq v x.2.1 then a else false) b
theorem NQ {H:GH}:∀{a:OL},Ec H a=true->∀x∈a,H.ver x.1=some x.2.1
 | [],_,x,b=>by cases b
 | y :: a, h, x, b => by
  have h:Option.casesOn (motive:=λ_=>Bool) (H.ver y.1) false (λv=>bif Nat.beq v y.2.1 then Ec H a else false)=true:=h;cases c:H.ver y.1 with
  |none=>rw[c]at h;cases h
  | some v =>
   rw[c]at h;obtain⟨d,f⟩:=bK.1 (show(bif Nat.beq v y.2.1 then(some (Ec H a))else none)=some true by
    have h:(bif Nat.beq v y.2.1 then Ec H a else false)=true:=h;cases e:Nat.beq v y.2.1<;>rw[e]at h<;>first|cases h|(show some (Ec H a)=some true;rw[show Ec H a=true from h]))
   rcases List.mem_cons.1 b with rfl|b
   ·rw[c,Nat.eq_of_beq_eq_true d]
   ·exact NQ (Option.some.inj f) x b
noncomputable def okV (a:OL) (r:OR):Bool:=Option.casesOn (motive:=λ_=>Bool) r false λr=>Option.casesOn (motive:=λ_=>Bool) r.1.asB false λb=>bif b then Ec r.2 a else false
theorem Wj {d:OL} {r:OR} (h:okV d r=true):∃a,r=some (.bool true,a)∧Ec a d=true:=by
 cases r with
 |none=>cases h
 | some r =>
  obtain⟨g,a⟩:=r;have h:Option.casesOn (motive:=λ_=>Bool) g.asB false (λb=>bif b then Ec a d else false)=true:=h;cases c:g.asB with
  |none=>rw[c]at h;cases h
  |some b=>
   rw[c]at h;cases b with
   |false=>cases h
   |true=>exact⟨a,by rw[AL c],h⟩
theorem SY {P:Program} {G:GP} {x:FT} (F:∀T:dY noG,Sb P G x T) {fuel f n:Nat} {d:OL} {g:GV} {V:Value} (H:aR P f) (h:∃r,QI G x fuel f [g] (HD n d)=some (.bool true,r)∧Ec r d=true) {w:World} {S:Nat->Prop} (Q:(TM n d g V).p w S):
  Calls P f #[V] w λe u=>e = .returned (.bool true)∧KN w u:=by
 obtain⟨U,y,M⟩:=Q;obtain⟨r,D,E⟩:=h;rcases EX F D y.rel (.cons M .nil)with⟨v,u,W,m,_⟩|⟨_,I⟩
 ·have:=H #[V] w;rw[this]at m;cases m
 ·refine I.mono ?_;rintro e u ⟨v,X,rfl,j,c,N⟩;refine⟨by rw[N.bool_inv],c.ext.os,c.ext.tape,c.ext.output,c.ext.size,λk K=> ?_⟩
  by_cases A:Hd.O n d U k
  ·obtain⟨i,o,l,J,z,rfl⟩:=A;obtain⟨t,q⟩:=fW.1 J;have L:(i,t,o)∈d:=Lz ((CU d i).symm.trans q);obtain⟨R,a,b,_⟩:=y.vers i t l (qI.2 ⟨o,q⟩) z;obtain⟨s,B,C,_⟩:=c.vers i t l (NQ E _ L) (j _ _ z);have:R=s:=by have:=j _ _ a;rw[B]at this;exact(Option.some.inj this).symm
   subst this;exact C.trans b.symm
  ·exact c.ext.block k K A
end Go.Gx
namespace Go.Proofs.YtmdlcmbplnhdnaaGreatDoor
open Go Go.Sx Go.Gx
set_option maxRecDepth 100000
abbrev sJ:=ByteArray×(Value×eS)×(Value×List (Int×(Value×eS)))
def wS (z:sJ):eS×List (Int×eS):=(z.2.1.2,z.2.2.2.map λs=>(s.1,s.2.2))
def AR:ByteArray:=(ByteArray.mk #[112,114,111,103,114,97,109,32,114,101,115,101,116,59,10,118,97,114,32,100,32,58,32,48,32,46,46,32,110,59,10,118,97,114,32,112,32,58,32,112,111,114,116,59,10,118,97,114,32,115,32,58,32,98,111,111,108,59,10,118,97,114,32,98,32,58,32,98,111,111,108,59,10,118,97,114,32,121,32,58,32,48,32,46,46,32,51,59,10,118,97,114,32,114,32,58,32,98,111,111,108,59,10,114,117,108,101,32,116,111,112,58,32,114,111,111,116,32,38,38,32,40,100,32,33,61,32,48,32,124,124,32,112,32,33,61,32,110,111,110,101,41,32,45,62,32,100,32,58,61,32,48,44,32,112,32,58,61,32,110,111,110,101,59,10,114,117,108,101,32,108,111,119,58,32,33,114,111,111,116,32,38,38,32,40,100,32,33,61,32,40,109,105,110,40,113,46,100,41,32,60,32,110,32,63,32,109,105,110,40,113,46,100,41,32,43,32,49,32,58,32,110,41,32,124,124,32,112,32,33,61,32,102,105,114,115,116,40,113,46,100,32,61,61,32,109,105,110,40,113,46,100,41,41,41,10,32,32,45,62,32,100,32,58,61,32,40,109,105,110,40,113,46,100,41,32,60,32,110,32,63,32,109,105,110,40,113,46,100,41,32,43,32,49,32,58,32,110,41,44,32,112,32,58,61,32,102,105,114,115,116,40,113,46,100,32,61,61,32,109,105,110,40,113,46,100,41,41,59,10,114,117,108,101,32,98,101,103,105,110,58,32,114,111,111,116,32,38,38,32,33,115,32,38,38,32,114,32,45,62,32,115,32,58,61,32,116,114,117,101,44,32,98,32,58,61,32,33,98,44,32,121,32,58,61,32,48,44,32,114,32,58,61,32,102,97,108,115,101,59,10,114,117,108,101,32,116,97,107,101,58,32,33,114,111,111,116,32,38,38,32,115,111,109,101,40,113,32,61,61,32,112,32,38,38,32,40,113,46,98,32,33,61,32,98,32,124,124,32,115,32,38,38,32,33,113,46,115,41,41,32,45,62,32,115,32,58,61,32,115,111,109,101,40,113,32,61,61,32,112,32,38,38,32,113,46,115,41,44,32,98,32,58,61,32,115,111,109,101,40,113,32,61,61,32,112,32,38,38,32,113,46,98,41,44,32,121,32,58,61,32,48,44,32,114,32,58,61,32,102,97,108,115,101,59,10,114,117,108,101,32,102,105,110,105,115,104,58,32,115,32,38,38,32,97,108,108,40,113,46,112,32,33,61,32,113,46,98,97,99,107,32,124,124,32,33,113,46,115,32,38,38,32,113,46,98,32,61,61,32,98,41,32,45,62,32,115,32,58,61,32,102,97,108,115,101,59,10,114,117,108,101,32,97,115,107,58,32,33,115,32,38,38,32,33,114,32,38,38,32,115,111,109,101,40,113,46,112,32,61,61,32,113,46,98,97,99,107,32,38,38,32,113,46,114,32,38,38,32,33,113,46,115,41,32,45,62,32,114,32,58,61,32,116,114,117,101,59,10])
def Gr:G_:=[((ByteArray.mk #[100]),(1:Int),(0:Int),(0:Int),(1:Int),(0:Int)),((ByteArray.mk #[112]),(3:Int),(0:Int),(0:Int),(0:Int),(0:Int)),((ByteArray.mk #[115]),(2:Int),(0:Int),(0:Int),(0:Int),(0:Int)),((ByteArray.mk #[98]),(2:Int),(0:Int),(0:Int),(0:Int),(0:Int)),((ByteArray.mk #[121]),(1:Int),(0:Int),(3:Int),(0:Int),(0:Int)),((ByteArray.mk #[114]),(2:Int),(0:Int),(0:Int),(0:Int),(0:Int))]
def BO:Jp:=[([(41,0),(10,0),(42,0),(36,0),(5,0),(1,0),(36,0),(5,1),(4,0)],[(0,[(1,0)]),(1,[(4,0)])]),([(41,0),(19,0),(10,0),(42,0),(36,0),(5,0),(43,0),(37,0),(24,0),(12,0),(6,0),(33,0),(24,0),(12,0),(1,1),(6,0),(36,0),(5,1),(23,0),(35,0),(12,0),(24,0),(12,0)],[(0,[(43,0),(37,0),(24,0),(12,0),(6,0),(33,0),(24,0),(12,0),(1,1),(6,0)]),(1,[(23,0),(35,0),(12,0),(24,0),(12,0)])]),([(41,0),(41,0),(10,0),(19,0),(5,2),(5,5)],[(2,[(2,0)]),(3,[(19,0),(5,3)]),(4,[(1,0)]),(5,[(3,0)])]),([(41,0),(19,0),(10,0),(21,0),(41,0),(35,0),(11,0),(5,1),(42,0),(36,0),(12,3),(5,3),(41,0),(5,2),(19,0),(12,2)],[(2,[(21,0),(41,0),(35,0),(11,0),(5,1),(12,2)]),(3,[(21,0),(41,0),(35,0),(11,0),(5,1),(12,3)]),(4,[(1,0)]),(5,[(3,0)])]),([(41,0),(5,2),(20,0),(42,0),(36,0),(12,1),(17,0),(41,0),(19,0),(12,2),(35,0),(12,3),(5,3)],[(2,[(3,0)])]),([(41,0),(41,0),(19,0),(5,2),(19,0),(5,5),(21,0),(41,0),(41,0),(35,0),(12,1),(17,0),(12,5),(19,0),(12,2)],[(5,[(2,0)])])]
def ZQ:List ((Nat×Nat)×eS×List (Int×eS)):=[((7368564,3),[(41,0),(10,0),(42,0),(36,0),(5,0),(1,0),(36,0),(5,1),(4,0)],[(0,[(1,0)]),(1,[(4,0)])]),((7827308,3),[(41,0),(19,0),(10,0),(42,0),(36,0),(5,0),(43,0),(37,0),(24,0),(12,0),(6,0),(33,0),(24,0),(12,0),(1,1),(6,0),(36,0),(5,1),(23,0),(35,0),(12,0),(24,0),(12,0)],[(0,[(43,0),(37,0),(24,0),(12,0),(6,0),(33,0),(24,0),(12,0),(1,1),(6,0)]),(1,[(23,0),(35,0),(12,0),(24,0),(12,0)])]),((474214786402,5),[(41,0),(41,0),(10,0),(19,0),(5,2),(5,5)],[(2,[(2,0)]),(3,[(19,0),(5,3)]),(4,[(1,0)]),(5,[(3,0)])]),((1701536116,4),[(41,0),(19,0),(10,0),(21,0),(41,0),(35,0),(11,0),(5,1),(42,0),(36,0),(12,3),(5,3),(41,0),(5,2),(19,0),(12,2)],[(2,[(21,0),(41,0),(35,0),(11,0),(5,1),(12,2)]),(3,[(21,0),(41,0),(35,0),(11,0),(5,1),(12,3)]),(4,[(1,0)]),(5,[(3,0)])]),((114844899371366,6),[(41,0),(5,2),(20,0),(42,0),(36,0),(12,1),(17,0),(41,0),(19,0),(12,2),(35,0),(12,3),(5,3)],[(2,[(3,0)])]),((7041889,3),[(41,0),(41,0),(19,0),(5,2),(19,0),(5,5),(21,0),(41,0),(41,0),(35,0),(12,1),(17,0),(12,5),(19,0),(12,2)],[(5,[(2,0)])])]
def PF (V:Value):aW:=⟨λw S=>(TM 7588 V_ mg1 V).p w S,λ{w w' S S'} h k=>by
 rcases h with h
 ·exact((TM 7588 V_ mg1 V).mono h k)⟩
noncomputable def Ss {R:Type} (D:Jp) (k:List sJ->Option R):Option R:=open Classical in if h:∃r,∀z:List sJ,z.map wS=D->k z=some r then some (Classical.choose h)else none
theorem JU {R:Type} {D:Jp} {k:List sJ->Option R} {r:R} (h:Ss D k=some r) (z:List sJ) (a:z.map wS=D):k z=some r:=by
 unfold Ss at h;split at h
 ·rename_i e;rw[<-Option.some.inj h];exact Classical.choose_spec e z a
 cases h
theorem Qs {R:Type} {D:Jp} {k:List sJ->Option R} {r:R} (h:∀z:List sJ,z.map wS=D->k z=some r):Ss D k=some r:=by
 have e:∃r,∀z:List sJ,z.map wS=D->k z=some r:=⟨r,h⟩
 unfold Ss;rw[dif_pos e];let z:List sJ:=D.map λx=>(ByteArray.empty,(undef,x.1),(undef,x.2.map λs=>(s.1,(undef,s.2))))
 have c:z.map wS=D:=by
  show(D.map _).map wS=D;rw[List.map_map]
  conv=>rhs;rw[<-List.map_id D]
  refine List.map_congr_left λx _=>?_;obtain⟨a,b⟩:=x;simp[wS,Function.comp_def]
 rw[<-Classical.choose_spec e z c,h z c]
def kV (a:Nat) (b:ByteArray):Option WL:=if b=AR then some ((ByteArray.mk #[114,101,115,101,116]),Gr,BO)else none
theorem O_:aR Tryz.prog 23:=Tryz.call23
theorem QB:aR Tryz.prog 118:=Tryz.call118
theorem NF:He AR=(62612022078668281795505554093363622559854195865949253215105900396045672359969877880166549174032343132993734957765569202214538907514566311350427701009544032694847337705793280154083690688451269616688782133795410379376928705130345296445151552924450334836917827234573469831105668184247309683323748037249326305257450566500613104582596739355858495108587194514699348039550352061107652063950585699432193800786308390540153052463342825471615451497403378237530695269756800903089344746135921082798862585170912282432061314226997690214573863871773160495090950365393003392302336199511227963345777762340303723847551010267882950244475187531638497589816884840746003832656122559568072415127281877587919955134951848720898362784721630179183632514071187737718801766045181382178059597531935953865739058317213402067112106178269539818406468794623567714368406699984352401615611648009540554670638379077003046691601651659503488023036016650041344236444492625067110609540290467946795853434537583557082408411183186533670519462632865144031819183310381452310956185194634675703732849182713820334837695243446565596654286740386031565011357996399800921820918955437335624617843094112596863701508946442457135114386851122925397296113071978999231011209672540734656076492347048890983156526043032785285927167596865683405763291449118335047510792439178363711784660496025932951555546329846668545661249500619781993860494368395467151808107769959479474456951167188694307489519361853029722953071634727739222067984252267479508130870821814111526873691367656719627636282162632229619012164283959600299915921951610829461135327475232013270964287406921117221047932843602716792612622967992944,679):=by kernel_rfl
theorem Wn:He (ByteArray.mk #[114,101,115,101,116])=(499918267762,5):=by kernel_rfl
theorem Wq:Ll (HD 7588 V_) 6 (dP 1 abd (dP 1 (dI .i64) (dP 1 (dI .i64) (dP 1 (dI .i64) (dP 1 (dI .i64) (dI .i64)))))) (.sl 2815 0 6 6)=some (Gr.map λz=>(He z.1,z.2.1,z.2.2.1,z.2.2.2.1,z.2.2.2.2.1,z.2.2.2.2.2)):=by kernel_rfl
theorem Tm:Ll (HD 7588 V_) 3 (dP 1 abd (dP 1 (dS (HD 7588 V_) 2 (dP 1 (dI .i64) (dI .i64))) (dS (HD 7588 V_) 2 (dP 1 (dI .i64) (dS (HD 7588 V_) 2 (dP 1 (dI .i64) (dI .i64))))))) (.sl 4970 0 6 3)=some ZQ:=by kernel_rfl
theorem Ze:ZQ.map (λy=>(y.2.1,y.2.2))=BO:=by kernel_rfl
theorem Wo (r:WL) (h:some ((ByteArray.mk #[114,101,115,101,116]),Gr,BO)=some r):aV Tryz.prog 23 #[vS AR] [Gb 0 (cellsOf EI sU)] (λx:Value×Value×{z:List sJ // z.map wS=r.2.2}=>Value.agg #[vS r.1,x.1,x.2.1]) (λx l=>l) (λx l=>Sl aK x.1 r.2.1::Sl aH x.2.1 x.2.2.1::PF (Value.agg #[vS r.1,x.1,x.2.1])::l):=by
 cases h;refine PH (gs:=gl) (LO:=λx:Value×Value×{z:List sJ // z.map wS=BO}=>[Sl aK x.1 Gr,Sl aH x.2.1 x.2.2.1,PF (Value.agg #[vS (ByteArray.mk #[114,101,115,101,116]),x.1,x.2.1])]) Vu (λT b=>Td Fw ZL me1 O_ (.cons (PT (x:=AR) (congrArg Prod.fst NF).symm (congrArg Prod.snd NF).symm) .nil) Z b) ?_;intro T b B w V a R g;have y:=g;obtain⟨f,rfl,c,_⟩:=g.agg_inv;obtain⟨C,f,rfl,m,c⟩:=c.of_cons;obtain⟨j,f,rfl,n,c⟩:=c.of_cons;obtain⟨k,rfl,o⟩:=c.one;obtain rfl:=Zr m Wn;obtain⟨A,v,s⟩:=BA R a (gH.pair gH.str (gH.pair (gH.int .i64) (gH.pair (gH.int .i64) (gH.pair (gH.int .i64) (gH.pair (gH.int .i64) (gH.int .i64)))))) n Wq;have e:A=Gr:=IN (CO (λ_ _=>Nc) (CO IJ (CO IJ (CO IJ (CO IJ IJ))))) v;subst e;obtain⟨i,u,t⟩:=BA (r:=aH) R a (gH.pair gH.str (gH.pair (gH.sl R a (gH.pair (gH.int .i64) (gH.int .i64))) (gH.sl R a (gH.pair (gH.int .i64) (gH.sl R a (gH.pair (gH.int .i64) (gH.int .i64))))))) o Tm;have d:i.map wS=BO:=by
  rw[<-Ze,<-u,List.map_map];refine List.map_congr_left λx _=>?_;simp[wS,Function.comp_def]
 exact⟨(j,k,⟨i,d⟩),rfl,List.forall_mem_cons.2 ⟨s,List.forall_mem_cons.2 ⟨t,List.forall_mem_cons.2 ⟨(⟨B,eT.hd R a,y⟩),λq p=>absurd p List.not_mem_nil⟩⟩⟩⟩
theorem Xe:okV V_ (Ik Gs gp0 4000 118 [mg1] (HD 7588 V_))=true:=by kernel_rfl
theorem Ch (a:Nat) {b:ByteArray} (r:WL) (h:kV a b=some r):aV Tryz.prog 23 #[vS b] [Gb 0 (cellsOf EI sU)] (λx:Value×Value×{z:List sJ // z.map wS=r.2.2}=>Value.agg #[vS r.1,x.1,x.2.1]) (λx l=>l) (λx l=>Sl aK x.1 r.2.1::Sl aH x.2.1 x.2.2.1::PF (Value.agg #[vS r.1,x.1,x.2.1])::l):=by
 unfold kV at h;by_cases c:b=AR
 ·subst c;exact Wo r ((if_pos Z).symm.trans h)
 rw[if_neg c]at h;cases h
theorem NE (f:Nat):kV f AR=some ((ByteArray.mk #[114,101,115,101,116]),Gr,BO):=by
 unfold kV;exact if_pos Z
def AQ (fuel:Nat) (a:ByteArray×List (ByteArray×Int×Int×Int×Int×Int)×List (sJ)):Option Bool:=some true
theorem JI (a:Nat) {b:ByteArray×List (ByteArray×Int×Int×Int×Int×Int)×List (sJ)} (d f:Value) (r:Bool) (h:AQ a b=some r):
  aV Tryz.prog 118 #[Value.agg #[vS b.1,d,f]] [Sl aK d b.2.1,Sl aH f b.2.2,PF (Value.agg #[vS b.1,d,f])] (λx:Unit=>vB (r)) (λx l=>l) (λ_ l=>l):=by
 cases h;intro w S z;have g:Calls Tryz.prog 118 #[Value.agg #[vS b.1,d,f]] w λe o=>e = .returned (.bool true)∧KN w o:=by
  rcases z _ (List.mem_of_getElem? (i:=2) rfl)with v
  ·refine SY (fuel:=4000) agP QB ?_ v;obtain⟨p,n,s⟩:=Wj Xe;rw[EY (G:=gp0) Fw]at n;exact⟨p,n,s⟩
 refine g.mono ?_;rintro e o ⟨rfl,c⟩;exact⟨(),rfl,⟨c.os,c.tape,c.output,c.size,λk t _=>c.block k t⟩,λ_ _=>False,⟨λi m u=>by simp at u,λi k h=>h.elim,λi j k h=>h.elim⟩,λq y=>by simp at y⟩
end Go.Proofs.YtmdlcmbplnhdnaaGreatDoor
namespace Go.Proofs.YtmdlcmbplnhdnaaGreatDoor
open Go Go.Sx
abbrev aeJ:=Dl
abbrev PRG:=ByteArray×(List aeJ)×(List sJ)
abbrev GRF:=List Int×eY
abbrev SCN:=PRG×GRF×Int×bA
abbrev WLK:=SCN×bA×Int×eS
inductive E where
 |lf (o a:Int)
 |un (o:Int) (x:E)
 |ag (o:Int) (x:E)
 |bi (o:Int) (x y:E)
 |ite (x y z:E)
def E.ts:E->eS
 |lf o a=>[(o,a)]
 |un o x=>(o,0)::x.ts
 |ag o x=>(o,0)::x.ts
 |bi o x y=>(o,0)::(x.ts++y.ts)
 |ite x y z=>(43,0)::(x.ts++(y.ts++z.ts))
def E.depth:E->Nat
 |lf _ _=>1
 |un _ x=>x.depth+1
 |ag _ x=>x.depth+1
 |bi _ x y=>max x.depth y.depth+1
 |ite x y z=>max x.depth (max y.depth z.depth)+1
def E.arOk:E->Bool
 |lf o _=>decide (1<=o)&&decide (o<=17)
 |un o x=>decide (18<=o)&&decide (o<=19)&&x.arOk
 |ag o x=>decide (20<=o)&&decide (o<=29)&&x.arOk
 |bi o x y=>decide (30<=o)&&decide (o<=42)&&x.arOk&&y.arOk
 |ite x y z=>x.arOk&&y.arOk&&z.arOk
theorem Qy {b:Type} [Inhabited b] {T a rest:List b} {x:b} {k:Nat} (c:T=a++x::rest) (d:a.length=k):at' T (k:Int)=x:=by
 subst c;exact Sv a rest x k d
theorem fK {k:Nat} (h:k<1000000):wI .i64 ((k:Int)+1)=((k+1:Nat):Int):=by rw[wr (by omega) (by omega)];rfl

theorem Uu (f:Nat) {o:Int} (a:1<=o) (b:o<=43):vT f o=some (if o<=17 then 0 else if o<=29 then 1 else if o<=42 then 2 else 3):=by
 unfold vT xK;rw[if_neg (by omega)];simp only[decide_eq_true_eq];rw[if_neg (by omega)];split
 ·rfl
 ·split
  ·rfl
  ·split<;>rfl
theorem Vf {F:Nat} {T c rest:eS} {t:fG} {k m a:Nat} {b:Nat} (d:T=c++t::rest) (g:c.length=k) (i:k<1000) (n:m<3000) (e:vT F t.1=some ((a:Nat):Int)) (f:a<=3) (j:m+a≠0):
  bL (kN F T) (b+1) ((k:Int),(m:Int))=if m+a=1 then some (((k+1:Nat):Int))else bL (kN F T) b (((k+1:Nat):Int),((m+a - 1:Nat):Int)):=by
 have l:k<T.length:=by rw[d];simp;omega
 show kN F T ((k:Int),(m:Int)) (bL (kN F T) b)=_;unfold kN;dsimp only;rw[if_pos (by omega),cB (by omega),Qy d g,bD e,if_neg (by omega),wr (x:=((a:Nat):Int) - 1) (by omega) (by omega),wr (by omega) (by omega),fK (by omega)];by_cases h:m+a=1
 ·rw[if_pos h,if_pos (by omega)]
 ·rw[if_neg h,if_neg (by omega)];have:(m:Int)+((a:Int) - 1)=((m+a - 1:Nat):Int):=by omega
  rw[this]
theorem Yz (F:Nat) (T:eS) (H:T.length<=900):∀(e:E),e.arOk=true->∀(c k m:Nat) (d b:eS),T=d++(e.ts++b)->d.length=k->1<=m->m+2*(e.ts++b).length<=1900->e.ts.length<=c->
  bL (kN F T) c ((k:Int),(m:Int))=if m=1 then some (((k+e.ts.length:Nat):Int))else bL (kN F T) (c - e.ts.length) (((k+e.ts.length:Nat):Int),((m - 1:Nat):Int)):=by
 have r:∀{t:fG} {l b d:eS} {c k m:Nat},T=d++((t::l)++b)->d.length=k->(t::l).length<=c->1<=t.1->t.1<=43->1<=m->m+2*((t::l)++b).length<=1900->∀a:Nat,(if t.1<=17 then 0 else if t.1<=29 then 1 else if t.1<=42 then 2 else 3:Int)=a->a<=3->∃f,c=f+1∧
   bL (kN F T) c ((k:Int),(m:Int))=if m+a=1 then some (((k+1:Nat):Int))else bL (kN F T) f (((k+1:Nat):Int),((m+a - 1:Nat):Int)):=by
  intro t l b d c k m n p q v w i j a I B;have A:=congrArg List.length n;simp only[List.length_append,List.length_cons]at A j q;obtain⟨f,rfl⟩:∃f,c=f+1:=⟨c - 1,by omega⟩
  exact⟨f,rfl,Vf (rest:=l++b) (by simpa using n) p (by omega) (by omega) (by rw[Uu F v w,I]) B (by omega)⟩
 intro e
 induction e with
 |lf o a=>
  intro g c k m d b n p i j q;simp only[E.arOk,Bool.and_eq_true,decide_eq_true_eq]at g;obtain⟨f,rfl,h⟩:=r (t:=(o,a)) (l:=[]) n p q (by dsimp only;omega) (by dsimp only;omega) i j 0 (by rw[if_pos (by dsimp only;omega)];rfl) (by omega);rw[h];rfl
 |un o x C=>
  intro g c k m d b n p i j q;simp only[E.arOk,Bool.and_eq_true,decide_eq_true_eq]at g;obtain⟨f,rfl,h⟩:=r (t:=(o,0)) (l:=x.ts) n p q (by dsimp only;omega) (by dsimp only;omega) i j 1 (by rw[if_neg (by dsimp only;omega),if_pos (by dsimp only;omega)];rfl) (by omega);simp only[E.ts,List.length_cons]at q j ⊢;rw[h,if_neg (by omega)];have:=C g.2 f (k+1) m (d++[(o,0)]) b (by rw[n];simp[E.ts]) (by simp[p]) i (by simp at j ⊢;omega) (by omega);rw[show m+1 - 1=m by omega,this,show k+1+x.ts.length=k+(x.ts.length+1) by omega,show f+1 - (x.ts.length+1)=f - x.ts.length by omega]
 |ag o x C=>
  intro g c k m d b n p i j q;simp only[E.arOk,Bool.and_eq_true,decide_eq_true_eq]at g;obtain⟨f,rfl,h⟩:=r (t:=(o,0)) (l:=x.ts) n p q (by dsimp only;omega) (by dsimp only;omega) i j 1 (by rw[if_neg (by dsimp only;omega),if_pos (by dsimp only;omega)];rfl) (by omega);simp only[E.ts,List.length_cons]at q j ⊢;rw[h,if_neg (by omega)];have:=C g.2 f (k+1) m (d++[(o,0)]) b (by rw[n];simp[E.ts]) (by simp[p]) i (by simp at j ⊢;omega) (by omega);rw[show m+1 - 1=m by omega,this,show k+1+x.ts.length=k+(x.ts.length+1) by omega,show f+1 - (x.ts.length+1)=f - x.ts.length by omega]
 |bi o x y s u=>
  intro g c k m d b n p i j q;simp only[E.arOk,Bool.and_eq_true,decide_eq_true_eq]at g;obtain⟨f,rfl,h⟩:=r (t:=(o,0)) (l:=x.ts++y.ts) n p q (by dsimp only;omega) (by dsimp only;omega) i j 2 (by rw[if_neg (by dsimp only;omega),if_neg (by dsimp only;omega),if_pos (by dsimp only;omega)];rfl) (by omega);simp only[E.ts,List.length_cons,List.length_append]at q j ⊢;rw[h,if_neg (by omega)];have v:=s g.1.2 f (k+1) (m+1) (d++[(o,0)]) (y.ts++b) (by rw[n];simp[E.ts]) (by simp[p]) (by omega) (by simp at j ⊢;omega) (by omega);have w:=u g.2 (f - x.ts.length) (k+1+x.ts.length) m (d++((o,0)::x.ts)) b (by rw[n];simp[E.ts]) (by simp[p];omega) (by omega) (by simp at j ⊢;omega) (by omega);rw[show m+2 - 1=m+1 by omega,v,if_neg (by omega),show m+1 - 1=m by omega,w,show k+1+x.ts.length+y.ts.length=k+(x.ts.length+y.ts.length+1) by omega,show f+1 - (x.ts.length+y.ts.length+1)=f - x.ts.length - y.ts.length by omega]
 |ite x y z s u D=>
  intro g c k m d b n p i j q;simp only[E.arOk,Bool.and_eq_true,decide_eq_true_eq]at g;obtain⟨f,rfl,h⟩:=r (t:=(43,0)) (l:=x.ts++(y.ts++z.ts)) n p q (by decide) (by decide) i j 3 Z (by omega);simp only[E.ts,List.length_cons,List.length_append]at q j ⊢;rw[h,if_neg (by omega)];have v:=s g.1.1 f (k+1) (m+2) (d++[(43,0)]) (y.ts++z.ts++b) (by rw[n];simp[E.ts]) (by simp[p]) (by omega) (by simp at j ⊢;omega) (by omega);have w:=u g.1.2 (f - x.ts.length) (k+1+x.ts.length) (m+1) (d++((43,0)::x.ts)) (z.ts++b) (by rw[n];simp[E.ts]) (by simp[p];omega) (by omega) (by simp at j ⊢;omega) (by omega);have G:=D g.2 (f - x.ts.length - y.ts.length) (k+1+x.ts.length+y.ts.length) m (d++((43,0)::(x.ts++y.ts))) b (by rw[n];simp[E.ts]) (by simp[p];omega) (by omega) (by simp at j ⊢;omega) (by omega);rw[show m+3 - 1=m+2 by omega,v,if_neg (by omega),show m+2 - 1=m+1 by omega,w,if_neg (by omega),show m+1 - 1=m by omega,G,show k+1+x.ts.length+y.ts.length+z.ts.length=k+(x.ts.length+(y.ts.length+z.ts.length)+1) by omega,show f+1 - (x.ts.length+(y.ts.length+z.ts.length)+1)=f - x.ts.length - y.ts.length - z.ts.length by omega]
theorem abj (F:Nat) (e:E) (d:e.arOk=true) {T b a:eS} {k:Nat} (f:T=b++(e.ts++a)) (i:b.length=k) (j:T.length<=800) (h:e.ts.length<=F):BL F T (k:Int)=some (((k+e.ts.length:Nat):Int)):=by
 have g:1<=e.ts.length:=by cases e<;>simp[E.ts]
 have c:=congrArg List.length f;simp only[List.length_append]at c;unfold BL AH;rw[if_neg (by omega)];simp only[decide_eq_true_eq];rw[if_neg (by omega)];have:=Yz F T (by omega) e d F k 1 b a f i (by omega) (by simp;omega) h;rw[if_pos Z]at this;exact this
def Bu (b:Bool):Int:=if b then 1 else 0
theorem sV (f:Nat) (b:Bool):gZ f b=some (Bu b):=by cases b<;>rfl
theorem DI {a:Type} [Inhabited a] {l:List a} {k:Nat} (h:k<l.length):l.take (k+1)=l.take k++[at' l (k:Int)]:=by
 rw[List.take_add_one,List.getElem?_eq_getElem h,gX,List.getD_eq_getElem?_getD,List.getElem?_eq_getElem h];rfl
theorem kT {a:Type} [Inhabited a] {l:List a} {k:Nat} (h:k<l.length):at' l (k:Int)=l[k]:=by
 rw[gX,List.getD_eq_getElem?_getD,List.getElem?_eq_getElem h];rfl
theorem Fh {p:Nat->Prop}:∀(n:Nat),p n->∃m,m<=n∧p m∧∀j,j<m->¬p j:=by
 intro n
 induction n using Nat.strongRecOn with
 | _ n ih =>
  intro h;by_cases d:∃m,m<n∧p m
  ·obtain⟨m,e,f⟩:=d;obtain⟨k,a,b,c⟩:=ih m e f;exact⟨k,by omega,b,c⟩
  ·exact⟨n,Nat.le_refl n,h,λj g i=>d ⟨j,g,i⟩⟩
theorem Rp {g:Type} [DecidableEq g]:∀(c b:List g),c.Nodup->(∀x∈c,x∈b)->c.length<=b.length
 | [],b,_,_=>Nat.zero_le _
 |a::c,b,h,hs=>by
  have d:=hs a List.mem_cons_self;have h:=List.nodup_cons.1 h;have:=Rp c (b.erase a) h.2 (λx f=>(List.mem_erase_of_ne (fun(e:x=a)=>h.1 (by rw[<-e];exact f))).2 (hs x (List.mem_cons_of_mem _ f)));rw[List.length_erase_of_mem d]at this;have i:0<b.length:=List.length_pos_of_mem d;simp only[List.length_cons];omega
def nz (x:Int):Bool:=decide (x≠0)
theorem UT (f:Nat) (l:aP) (h:l.length<f) (e:l.length<=1000):pF f l=some ((l.countP nz:Nat):Int):=by
 unfold pF;have:=eJ (step:=pV l) (K:=some ((l.countP nz:Nat):Int)) l.length (λk=>(((l.take k).countP nz:Nat),(k:Int))) (λk b c=>by
  have d:(l.take k).countP nz<=k:=Nat.le_trans List.countP_le_length (by simp;omega);unfold pV sL;dsimp only;rw[if_pos (by omega),cB (by omega),DI c,List.countP_append,fK (by omega),fK (by omega)];by_cases a:at' l (k:Int)=0
  ·rw[if_neg (by simpa using a)];simp[nz,a]
  ·rw[if_pos a];simp[nz,a]) (λb=>by
  unfold pV w_;dsimp only;rw[if_neg (by omega),List.take_length]) f h
 exact this
theorem GJ (f:Nat) (l:aP) (x:Int) (h:l.length<f) (t:l.length<=1000):qC f l x=some (decide (x∈l)):=by
 have q:∃i:Int,oO f l x=some i∧(0<=i↔x∈l):=by
  by_cases b:x∈l
  ·obtain⟨i,r,o⟩:=List.mem_iff_getElem.1 b;have a:∃i,i<l.length∧at' l (i:Int)=x∧∀j,j<i->at' l (j:Int)≠x:=by
    obtain⟨m,d,c,s⟩:=Fh (p:=λi=>at' l (i:Int)=x) i (by rw[kT r,o]);exact⟨m,by omega,c,s⟩
   obtain⟨i,r,d,c⟩:=a;refine⟨i,?_,iff_of_true (by omega) b⟩
   unfold oO;exact eJ (step:=jH l x) (K:=some (i:Int)) i (λk=>(k:Int)) (λk n g=>by
    unfold jH;rw[if_pos (by omega),cB (by omega),if_neg (λe=>c k g e.symm),fK (by omega)]) (λn=>by
    unfold jH;rw[if_pos (by omega),cB (by omega),if_pos d.symm]) f (by omega)
  ·refine⟨-1,?_,iff_of_false (by omega) b⟩
   unfold oO;exact eJ (step:=jH l x) (K:=some (-1)) l.length (λk=>(k:Int)) (λk n g=>by
    unfold jH;rw[if_pos (by omega),cB (by omega),if_neg (λe=>b (by rw[e,kT g];exact List.getElem_mem g)),fK (by omega)]) (λn=>by
    unfold jH tJ;rw[if_neg (by omega)]) f h
 obtain⟨i,d,c⟩:=q;unfold qC;rw[bD d];by_cases b:x∈l
 ·rw[decide_eq_true b,decide_eq_true (c.2 b)]
 ·rw[decide_eq_false b,decide_eq_false (λe=>b (c.1 e))]
def sA (l:aP):Int:=match l.findIdx? nz with
 |some i=>(i:Int)
 |none=> -1
theorem qR {l:aP} {i:Nat} (a:i<l.length) (b:at' l (i:Int)≠0) (c:∀j,j<i->at' l (j:Int)=0):sA l=i:=by
 have:l.findIdx? nz=some i:=by
  rw[List.findIdx?_eq_some_iff_getElem];refine⟨a,by rw[<-kT a];simpa [nz]using b,λj d=> ?_⟩
  have:=c j d;rw[kT (by omega)]at this;simp[nz,this]
 unfold sA;rw[this]
theorem AA {l:aP} (h:∀j,j<l.length->at' l (j:Int)=0):sA l = -1:=by
 have:l.findIdx? nz=none:=by
  rw[List.findIdx?_eq_none_iff];intro x b;obtain⟨i,a,rfl⟩:=List.mem_iff_getElem.1 b;have:=h i a;rw[kT a]at this;simp[nz,this]
 unfold sA;rw[this]
theorem Vq (f:Nat) (l:aP) (h:l.length<f) (t:l.length<=1000):l_ f l (λq=>nJ f q)=some (sA l):=by
 unfold l_;by_cases a:∃i,i<l.length∧at' l (i:Int)≠0
 ·obtain⟨i,s,o⟩:=a;obtain⟨m,r,n,b⟩:=Fh (p:=λi=>at' l (i:Int)≠0) i o;have b:∀j,j<m->at' l (j:Int)=0:=λj d=>Decidable.not_not.1 (b j d);rw[qR (by omega) n b];exact eJ (step:=fH l _) (K:=some (m:Int)) m (λk=>(k:Int)) (λk c g=>by
   unfold fH nJ;rw[if_pos (by omega),cB (by omega),bD Z,if_neg (by simp[b k g]),fK (by omega)]) (λc=>by
   unfold fH nJ;rw[if_pos (by omega),cB (by omega),bD Z,if_pos (by simpa using n)]) f (by omega)
 ·have a:∀j,j<l.length->at' l (j:Int)=0:=λj d=>Decidable.not_not.1 λe=>a ⟨j,d,e⟩;rw[AA a];exact eJ (step:=fH l _) (K:=some (-1)) l.length (λk=>(k:Int)) (λk c g=>by
   unfold fH nJ;rw[if_pos (by omega),cB (by omega),bD Z,if_neg (by simp[a k g]),fK (by omega)]) (λc=>by
   unfold fH nY;rw[if_neg (by omega)]) f h
def Bf (l:aP):Int:=l.foldl min 1073741824
theorem abG (f:Nat) (l:aP) (h:l.length<f) (c:l.length<=1000):bL (rI l) f ((1073741824:Int),(0:Int))=some (Bf l):=by
 exact eJ (step:=rI l) (K:=some (Bf l)) l.length (λk=>((l.take k).foldl min 1073741824,(k:Int))) (λk a b=>by
  unfold rI;dsimp only;rw[if_pos (by omega),cB (by omega),DI b,List.foldl_append,fK (by omega)];rfl) (λa=>by
  unfold rI yZ;dsimp only;rw[if_neg (by omega),List.take_length];rfl) f h
theorem Rn {l:aP} {x:Int} (h:x∈l):Bf l<=x:=by
 have c:∀(l:aP) (a:Int),l.foldl min a<=a∧∀x∈l,l.foldl min a<=x:=by
  intro l
  induction l with
  |nil=>intro a;exact⟨Int.le_refl a,λx b=>by cases b⟩
  |cons y l e=>
   intro a;obtain⟨f,d⟩:=e (min a y);refine⟨by simp only[List.foldl_cons];omega,λx b=> ?_⟩
   rcases List.mem_cons.1 b with rfl|b
   ·simp only[List.foldl_cons];omega
   ·exact d x b
 exact(c l _).2 x h
theorem Nt (l:aP):Bf l=1073741824∨Bf l∈l:=by
 have b:∀(l:aP) (a:Int),l.foldl min a=a∨l.foldl min a∈l:=by
  intro l
  induction l with
  |nil=>intro a;exact .inl Z
  | cons y l ih =>
   intro a;rcases ih (min a y)with h|h
   ·simp only[List.foldl_cons,h];rcases Int.le_total a y with q|q
    ·left;omega
    ·right;rw[show min a y=y by omega];exact List.mem_cons_self
   ·right;exact List.mem_cons_of_mem _ h
 exact b l _
def Nr (l:aP):Nat->Nat->Nat
 |0,k=>k
 |f+1,k=>if((k:Nat):Int)∈l then Nr l f (k+1)else k
def PI (l:aP):Nat:=Nr l (l.length+1) 0
theorem VZ (l:aP):((PI l:Nat):Int)∉l∧(∀j,j<PI l->((j:Nat):Int)∈l)∧PI l<=l.length:=by
 have key:∀(f k:Nat),(∀j,j<k->((j:Nat):Int)∈l)->(∀j,j<Nr l f k->((j:Nat):Int)∈l)∧(Nr l f k=k+f∨((Nr l f k:Nat):Int)∉l):=by
  intro f
  induction f with
  |zero=>intro k h;exact⟨h,.inl Z⟩
  | succ f ih =>
   intro k h;by_cases hk:((k:Nat):Int)∈l
   ·have:=ih (k+1) (λj hj=>by
     rcases Nat.lt_or_ge j k with q|q
     ·exact h j q
     ·rw[show j=k by omega];exact hk)
    simp only[Nr,if_pos hk];exact⟨this.1,this.2.imp (λe=>by omega) id⟩
   ·simp only[Nr,if_neg hk];exact⟨h,.inr hk⟩
 have hle:∀m,(∀j,j<m->((j:Nat):Int)∈l)->m<=l.length:=λm h=>by
  have:=Rp ((List.range m).map λj=>((j:Nat):Int)) l (by
   rw[List.nodup_iff_pairwise_ne,List.pairwise_map];exact(List.nodup_iff_pairwise_ne.1 List.nodup_range).imp (λh e=>h (by omega))) (λx hx=>by
   obtain⟨j,hj,rfl⟩:=List.mem_map.1 hx;exact h j (List.mem_range.1 hj))
  simpa using this
 obtain⟨h1,h2⟩:=key (l.length+1) 0 (λj hj=>by omega);have h3:=hle _ h1;refine⟨?_,h1,h3⟩
 rcases h2 with h2|h2
 ·have:Nr l (l.length+1) 0<=l.length:=h3;omega
 ·exact h2
theorem abF (f:Nat) (l:aP) (h:l.length+2<f) (hl:l.length<=900):zR f l=some ((PI l:Nat):Int):=by
 obtain⟨h1,h2,h3⟩:=VZ l;unfold zR;exact eJ (step:=xQ f l) (K:=some ((PI l:Nat):Int)) (PI l) (λk=>(k:Int)) (λk ag hk=>by
  unfold xQ;rw[bD (GJ f l (k:Int) (by omega) (by omega)),if_pos (by simpa using h2 k hk),fK (by omega)]) (λag=>by
  unfold xQ Az;rw[bD (GJ f l _ (by omega) (by omega)),if_neg (by simpa using h1)]) f (by omega)
def Zs (l:aP):Int:=l.foldl (λa x=>wI .i64 (a+x)) 0
theorem abY (f:Nat) (l:aP) (h:l.length<f) (c:l.length<=1000):bL (rJ f l) f ((0:Int),(0:Int))=BD f (Zs l):=by
 refine(eJ (step:=rJ f l) l.length (λk=>(Zs (l.take k),(k:Int))) (λk a b=> ?_) (λa=> ?_) f h).trans Z
 ·unfold rJ;dsimp only;rw[if_pos (by omega),cB (by omega),fK (by omega),DI b];unfold Zs;rw[List.foldl_append];rfl
 ·unfold rJ;dsimp only;rw[if_neg (by omega),List.take_length]
def QW (o:Int) (l:aP):Int:=
 if o=20 then Bu (l.all nz)else if o=21 then Bu (l.any nz)else if o=22 then((l.countP nz:Nat):Int)else if o=23 then sA l else if o=24 then Bf l else if o=26 then max (-1073741824) (min (Zs l) 1073741824)else((PI l:Nat):Int)
theorem YI (f:Nat) (o:Int) (l:aP) (hf:40<=f) (hl:l.length<=24) (ho:o=20∨o=21∨o=22∨o=23∨o=24∨o=26∨o=27):AB f o l=some (QW o l):=by
 have hc:=UT f l (by omega) (by omega);unfold AB;rcases ho with rfl|rfl|rfl|rfl|rfl|rfl|rfl
 ·rw[if_pos Z,bD hc,bD (sV f _),QW,if_pos Z];have:(decide (((l.countP nz:Nat):Int)=(l.length:Int)))=l.all nz:=by
   rw[Bool.eq_iff_iff];simp[List.countP_eq_length,Int.ofNat_inj]
  rw[this]
 ·rw[if_neg (by decide),if_pos Z,bD hc,bD (sV f _),QW,if_neg (by decide),if_pos Z];have:(decide ((0:Int)<((l.countP nz:Nat):Int)))=l.any nz:=by
   rw[Bool.eq_iff_iff,decide_eq_true_eq,List.any_eq_true,show((0:Int)<((l.countP nz:Nat):Int))↔0<l.countP nz by omega,List.countP_pos_iff]
  rw[this]
 ·rw[if_neg (by decide),if_neg (by decide),if_pos Z,bD hc];rfl
 ·rw[if_neg (by decide),if_neg (by decide),if_neg (by decide),if_pos Z,bD (Vq f l (by omega) (by omega))];rfl
 ·rw[if_neg (by decide),if_neg (by decide),if_neg (by decide),if_neg (by decide),if_pos Z,abG f l (by omega) (by omega)];rfl
 ·rw[if_neg (by decide),if_neg (by decide),if_neg (by decide),if_neg (by decide),if_neg (by decide),if_neg (by decide),if_pos Z,abY f l (by omega) (by omega)];rfl
 ·rw[if_neg (by decide),if_neg (by decide),if_neg (by decide),if_neg (by decide),if_neg (by decide),if_neg (by decide),if_neg (by decide),if_pos Z,bD (abF f l (by omega) (by omega))];rfl
end Go.Proofs.YtmdlcmbplnhdnaaGreatDoor
namespace Go.Proofs.YtmdlcmbplnhdnaaGreatDoor
open Go.Sx
def tO  (a:bA):Option bA:=
 some (a)
def yJ (a:bA×Int) (c:(bA×Int)->Option bA) (b:aP):Option bA:=
 ck ((List.length a.1:Int)+(List.length ([b]):Int)<=1099511627) (c ((a.1++[b]),(wI .i64 (a.2+(1:Int)))))
def mV (U:Nat) (g:G_) (h:aP) (e:bA×Int) (a:aP×Int) (c:(aP×Int)->Option bA) (b:fG):Option bA:=
 Option.bind (qU U h (wI .i64 ((wI .i64 (e.2*(List.length g:Int)))+a.2))) λf=>(Option.bind (gE U f (wI .i64 ((wI .i64 (b.2 - b.1))+(1:Int)))) λd=>(ck ((List.length a.1:Int)+(List.length ([(wI .i64 (b.1+d))]):Int)<=1099511627) (c ((a.1++([(wI .i64 (b.1+d))])),(wI .i64 (a.2+(1:Int)))))))
def mW (U:Nat) (f:cE) (c:G_) (g:aP) (h:Int) (b:bA×Int) (e:(bA×Int)->Option bA) (a:aP×Int) (d:(aP×Int)->Option bA):Option bA:=
 if a.2<(List.length c:Int)then(ck (0<=a.2∧a.2<(List.length c:Int)) (ck (0<=a.2∧a.2<(List.length c:Int)) (ck (0<=a.2∧a.2<(List.length c:Int)) (ck (0<=a.2∧a.2<(List.length c:Int)) (ck (0<=a.2∧a.2<(List.length c:Int)) (if((at' c a.2).2.1)=(2:Int)then(mV U c g b a d ((0:Int),(1:Int)))else(if((at' c a.2).2.1)=(3:Int)then(ck (0<=b.2∧b.2<(List.length f.2:Int)) (mV U c g b a d ((-1:Int),(wI .i64 ((List.length (at' f.2 b.2):Int) - (1:Int))))))else(mV U c g b a d (((at' c a.2).2.2.1),(wI .i64 ((wI .i64 (((at' c a.2).2.2.2.1)+(wI .i64 (((at' c a.2).2.2.2.2.1)*(List.length f.2:Int)))))+(wI .i64 (((at' c a.2).2.2.2.2.2)*h)))))))))))))else(yJ b e (a.1))
def jJ (U:Nat) (c:cE) (e:G_) (f:aP) (d:Int) (a:bA×Int) (b:(bA×Int)->Option bA):Option bA:=
 if a.2<(List.length c.2:Int)then(bL (mW U c e f d a b) U (([]:aP),(0:Int)))else(tO  (a.1))
def pQ (U:Nat) (b:cE) (c:G_) (d:aP) (a:Int):Option bA:=
 bL (jJ U b c d a) U (([]:bA),(0:Int))
def tP (U:Nat) (c:cE) (d:G_) (e:aP) (a:fG) (b:iQ->Option bA):Option bA:=
 if a.2<(List.length c.2:Int)then(ck (0<=a.2∧a.2<(List.length c.1:Int)) (b ((max a.1 (at' c.1 a.2)),(wI .i64 (a.2+(1:Int))))))else(pQ U c d e (a.1))
def mA (U:Nat) (a:cE) (b:G_) (c:aP):Option bA:=
 bL (tP U a b c) U ((0:Int),(0:Int))
theorem aar:aR Tryz.prog 11:=Tryz.call11
theorem Jk (U:Nat) {g:cE} {n:G_} {s:aP} (v:Value)  (w:Value)  (z2:lA)  (F:Value)  (y:Value) (r:bA) (h:mA U g n s=some r):
  aV Tryz.prog 11 #[Value.agg #[v,w],F,y] [Sl bM v g.1,S2 a_ w z2 g.2,Sl aK F n,Sl bM y s] (λx:Jq=>x.1) (λx l=>Ar cT.raw x.1 x.2::kF cD x.2 r::l) (λ_ l=>l):=by
 refine aV.of Tryz.func11 Z Tryz.ntmps11 Z λc=>?_;unfold mA at h;refine aT<|aG (aL.box (cs:=[v,w]) Z Z) Z λp=>aD Z<|aM<|aT<|bU Z<|dL 0 Z<|aC (iX Z (aE.fact 1 Z) Z) Z<|aD Z<|aD Z<|aM<|aJ<|fU (λk=>pQ U g n s k=some r) (λk b4=>[(1,F),(2,y),(3,vP p),(7,vI (List.length g.2:Int)),(8,vI (k))]) (λk b4=>[bV p [v,w] 29]) ?_ ?_
 ·refine aT<|aD Z<|aM<|aU<|fD (tP U g n s) (λi J=>[(1,F),(2,y),(3,vP p),(7,vI (List.length g.2:Int)),(8,vI (i.1)),(9,vI (i.2))]) (λi J=>[bV p [v,w] 29]) ((0:Int),(0:Int)) () h SF (aY.refl _) ?_;intro ac i J h;refine aJ<|aT<|aA Z<|aA Z<|dA Z<|aM ?_;refine fE h Z (λh=>?_) λh=>?_
  ·refine cU<|aJ<|aU<|aQ<|aA Z<|bU Z<|dL 0 Z<|aA Z<|dO h λQ h=>aC (bE Z Z (aE.fact 0 Z) Z Z Q) Z<|aC (b_ Z (aE.fact 0 Z) Z Z Z dU Q) Z<|aC (Ic Z Z) Z<|aD Z<|eN<|oM<|aQ<|aA Z<|cQ Z<|aD Z<|aM ?_;exact AK ((max i.1 (at' g.1 i.2)),(wI .i64 (i.2+(1:Int)))) () h SF Z
  refine fS ?_;exact jL (i.1) () h SF Z
 intro k b4 h;unfold pQ at h;refine aT<|aD Z<|aM<|aJ<|Cr (B:=Jq) (λH=>tO  H=some r) (λH A=>[(10,A.1)]) (λH A=>[Ar cT.raw A.1 A.2,kF cD A.2 H]) ?_ ?_
 ·refine aT<|aD Z<|aM<|aU<|iW (gR cT.raw) (iW (CC cD) ?_);refine fD (B:=Jq) (jJ U g n s k) (λb a=>[(1,F),(2,y),(3,vP p),(7,vI (List.length g.2:Int)),(8,vI (k)),(10,a.1),(11,vI (b.2))]) (λb a=>[bV p [v,w] 29,Ar cT.raw a.1 a.2,kF cD a.2 b.1]) (([]:bA),(0:Int)) ((kE),([]:eW)) h SF (aY.ix [2,1,0] Z Z) ?_;intro G b a h;refine aJ<|aT<|aA Z<|aA Z<|dA Z<|aM ?_;refine fE h Z (λh=>?_) λh=>?_
  ·refine cU<|aJ<|aU<|aT<|aD Z<|aM<|aJ<|Cr (B:=Value) (λo=>yJ b (bL (jJ U g n s k) G) o=some r) (λo j=>[(1,F),(2,y),(3,vP p),(7,vI (List.length g.2:Int)),(8,vI (k)),(10,a.1),(11,vI (b.2)),(12,j)]) (λo j=>[bV p [v,w] 29,Ar cT.raw a.1 a.2,kF cD a.2 b.1,Ar cD j o]) ?_ ?_
   ·refine aT<|aD Z<|aM<|aU<|iW (gR cD)<|fD (B:=Value) (mW U g n s k b (bL (jJ U g n s k) G)) (λd m=>[(1,F),(2,y),(3,vP p),(7,vI (List.length g.2:Int)),(8,vI (k)),(10,a.1),(11,vI (b.2)),(12,m),(13,vI (d.2))]) (λd m=>[bV p [v,w] 29,Ar cT.raw a.1 a.2,kF cD a.2 b.1,Ar cD m d.1]) (([]:aP),(0:Int)) (kE) h SF (aY.ix [1,2,3,0] Z Z) ?_;intro S d m h;refine aJ<|aT<|aA Z<|aA Z<|jX (aE.fact 2 Z) Z<|dA Z<|aM ?_;refine fE h Z (λh=>?_) λh=>?_
    ·refine cU<|aJ<|aU<|aJ ?_;refine JR.start [0,0,3,7,15,0,0,96,224,480,0,0,3072,7168,15360,0,64512,131040,0,0,786432,1835008,3932160,0,16515072,33554400,31,134217727] 27 mixedOrders (by decide +kernel) ?_;refine JR.open (by exact rfl) ?_;refine bH Z<|bH Z<|dO h λL h=>bJ Z .nil (mE 2 Z) (bE Z Z (aE.fact 0 Z) Z Z L) aO.z<|iD Z (oC Z Z Z Z Z)<|bJ Z .nil (mE 2 Z) (p_ Z (aE.fact 0 Z) Z Z Z Ck L) aO.z<|bH Z<|bH Z<|dO h λM h=>bJ Z .nil (mE 2 Z) (bE Z Z (aE.fact 0 Z) Z Z M) aO.z<|iD Z (oC Z Z Z Z Z)<|bJ Z .nil (mE 2 Z) (p_ Z (aE.fact 0 Z) Z Z Z Cm M) aO.z<|bH Z<|bH Z<|dO h λN h=>bJ Z .nil (mE 2 Z) (bE Z Z (aE.fact 0 Z) Z Z N) aO.z<|iD Z (oC Z Z Z Z Z)<|bJ Z .nil (mE 2 Z) (p_ Z (aE.fact 0 Z) Z Z Z Cn N) aO.z<|bH Z<|iD Z (AJ Z Z)<|iD Z (xY Z Z)<|bH Z<|bH Z<|dO h λO h=>bJ Z .nil (mE 2 Z) (bE Z Z (aE.fact 0 Z) Z Z O) aO.z<|iD Z (oC Z Z Z Z Z)<|bJ Z .nil (mE 2 Z) (p_ Z (aE.fact 0 Z) Z Z Z Co O) aO.z<|bH Z<|iD Z (AJ Z Z)<|iD Z (xY Z Z)<|iD Z (mY Z)<|bR 27 Z Z<|aD Z<|aM<|aJ<|fU (λf=>mV U n s b d (bL (mW U g n s k b (bL (jJ U g n s k) G)) S) f=some r) (λf I=>[(1,F),(2,y),(3,vP p),(7,vI (List.length g.2:Int)),(8,vI (k)),(10,a.1),(11,vI (b.2)),(12,m),(13,vI (d.2)),(14,vI (f.1)),(15,vI (f.2))]) (λf I=>[bV p [v,w] 29,Ar cT.raw a.1 a.2,kF cD a.2 b.1,Ar cD m d.1]) ?_ ?_
     ·refine aT<|aA Z<|aA Z<|dO h λP h=>aC (bE Z Z (aE.fact 2 Z) Z Z P) Z<|aC (oC Z Z Z Z Z) Z<|aC (p_ Z (aE.fact 2 Z) Z Z Z wJ P) Z<|aM<|aU<|aT<|cJ Z<|aD Z<|aM ?_;refine fE h Z (λh=>?_) λh=>?_
      ·refine aQ<|aD Z<|aD Z<|eN<|oM ?_;exact jL ((0:Int),(1:Int)) () h SF Z
      refine aT<|cJ Z<|aD Z<|aM ?_;refine fE h Z (λh=>?_) λh=>?_
      ·refine JR.start [0,1,0,7,15,31,63,0,255] 8 mixedOrders (by decide +kernel) ?_;refine JR.open (by exact rfl) ?_;refine cR Z<|gY 0 Z<|bH Z<|dO h λu h=>bJ Z .nil (mE 1 Z) (c_ Z Z (aE.fact 0 Z) Z Z u) aO.z<|bJ Z .nil (mE 1 Z) (dB Z (aE.fact 0 Z) Z Z u) aO.z<|bJ Z .nil (mE 1 Z) (iU Z (aE.el (aE.fact 0 Z) u.1 u.2) Z) aO.z<|iD Z (pX Z Z)<|iD Z (mY Z)<|bR 8 Z Z<|aD Z<|eN<|oM ?_;exact jL ((-1:Int),(wI .i64 ((List.length (at' g.2 b.2):Int) - (1:Int)))) () h SF Z
      refine dX<|oM ?_;exact jL (((at' n d.2).2.2.1),(wI .i64 ((wI .i64 (((at' n d.2).2.2.2.1)+(wI .i64 (((at' n d.2).2.2.2.2.1)*(List.length g.2:Int)))))+(wI .i64 (((at' n d.2).2.2.2.2.2)*k))))) () h SF Z
     intro f I h;refine aQ<|aA Z<|aA Z<|aA Z<|aA Z<|aA Z<|jX (aE.fact 2 Z) Z<|aC (AJ Z Z) Z<|aA Z<|cQ Z<|eZ h λW aa h=>aG (aL.callQ Ih (Al U y W aa) Z (nK [3] Z)) Z λaf=>aA Z<|aA Z<|aC (pX Z Z) Z<|cQ Z<|eZ h λt ab h=>aG (aL.callQ CG (kM U  t ab) Z .nil) Z λag=>cQ Z<|aG (bW (e:=cD) ([(wI .i64 (f.1+t))]) [(0,vI (wI .i64 (f.1+t)))] Z Z Z Z (lQ (vI (wI .i64 (f.1+t))) Z) Z Z Z) Z λae=>dO h λR h=>aG (eL 4 eG Z Z Z (bG (aE.res 0 Z) eG) Z Z Z Z R Z) Z λY=>aD Z<|eN<|oM<|aQ<|aA Z<|cQ Z<|aD Z<|aM ?_;exact lM ((d.1++([(wI .i64 (f.1+t))])),(wI .i64 (d.2+(1:Int)))) (Y) h SF (aY.ix [1,2,3,4] Z Z) (aF.refl _ _)
    refine fS ?_;exact jL (d.1) (m) h SF Z
   intro o j h;refine aQ<|aA Z<|aA Z<|iW (CC cD)<|bX (Know.one ((bG (aE.res 4 Z) eG))) λE=>iW (OS 0 4 Z Z Z) ?_;refine aG (bW (e:=cT.raw) [j] [(0,j)] Z Z Z Z (lQ (j) E) Z Z (by simp[cellsOf,cT.raw,E])) Z λad=>?_;refine bX (cZ 4 Z) λC=>bX (cZ 1 Z) λD=>dO h λK h=>iW (MC 4 1 Z Z Z) ?_;refine aG (aL.append 2 0 Z Z Z Z Z Z Z (by have q:=K;have T:=C;have V:=D;(try simp only[List.length_cons,List.length_nil]at q T V ⊢);omega) (by have q:=K;have T:=C;have V:=D;(try simp only[List.length_cons,List.length_nil]at q T V ⊢);omega) Z) Z λX=>?_;refine aD Z<|eN<|oM<|aQ<|aA Z<|cQ Z<|aD Z<|aM ?_;exact lM ((b.1++[o]),(wI .i64 (b.2+(1:Int)))) (X,(a.2++[j])) h SF (aY.ix [1,2,3] Z Z) (aF.refl _ _)
  refine fS ?_;exact cV (b.1) (a.1,a.2) h SF (aY.ix [1,2] Z Z) (aF.refl _ _)
 intro H A h;unfold tO at h;refine aT<|aA Z<|aD Z<|aM<|aS ?_;cases h;exact gJ (A.1,A.2) Z Z (RV.tmp Z) (aY.refl _) aF.nil
def rX (b:cE) (a:eY):Option rU:=
 some ((b.1,a))
def kX (U:Nat) (b:Cu) (d:cE) (a:Int×eY) (c:(Int×eY)->Option rU) (e:Bool):Option rU:=
 if e=true then(ck (0<=a.1∧a.1<(List.length b.2.1:Int)) (Option.bind (gE U (at' b.2.1 a.1) (List.length d.2:Int)) λf=>(ck (0<=(wI .i64 (a.1+(1:Int)))∧(wI .i64 (a.1+(1:Int)))<(List.length b.2.1:Int)) (Option.bind (gE U (at' b.2.1 (wI .i64 (a.1+(1:Int)))) (List.length d.2:Int)) λg=>(Option.bind (qU U b.2.2.1 a.1) λh=>(Option.bind (gE U h (15:Int)) λi=>(Option.bind (lW U ((b.1,b.2.1,b.2.2.1,b.2.2.2.1,b.2.2.2.2.1,b.2.2.2.2.2)) ((d.1,a.2)) f g (wI .i64 ((1:Int)+i))) λj=>(c ((wI .i64 (a.1+(2:Int))),j)))))))))else(rX d (a.2))
def nQ (U:Nat) (c:Cu) (d:cE) (a:Int×eY) (b:(Int×eY)->Option rU):Option rU:=
 if(wI .i64 (a.1+(1:Int)))<(List.length c.2.1:Int)then(kX U c d a b (decide (a.1<(60:Int))))else(kX U c d a b (false))
def lX (U:Nat) (b:Cu) (a:cE):Option rU:=
 bL (nQ U b a) U ((List.length a.2:Int),a.2)
theorem aaw:aR Tryz.prog 25:=Tryz.call25
theorem EA (U:Nat) {a:Cu} {e:cE} (n:Value)  (m:Value)  (o:Value)  (f:Value)  (g:Value)  (O:eW) (r:(aP×eY)) (h:lX U a e=some r):
  Ek Tryz.prog 25 #[Value.agg #[vI (a.1),n,m,o,vB (a.2.2.2.2.1),vB (a.2.2.2.2.2)],Value.agg #[f,g]] [Ar cD f e.1,Ar cT.raw g O,kF bZ O e.2] [Sl bM n a.2.1,Sl bM m a.2.2.1,Sl bM o a.2.2.2.1] (λx:Value×Value×List Value=>Value.agg #[x.1,x.2.1]) (λx l=>Ar cD x.1 r.1::Ar cT.raw x.2.1 x.2.2::kF bZ x.2.2 r.2::l):=by
 refine Ek.of (vs:=[Value.agg #[vI (a.1),n,m,o,vB (a.2.2.2.2.1),vB (a.2.2.2.2.2)],Value.agg #[f,g]]) Tryz.func25 Z Tryz.ntmps25 Z λc=>?_;unfold lX at h;refine aT<|aG (aL.box (cs:=[vI (a.1),n,m,o,vB (a.2.2.2.2.1),vB (a.2.2.2.2.2)]) Z Z) Z λv=>aG (aL.box (cs:=[f,g]) Z Z) Z λq=>aG (aL.alloc (cs:=[kE,kE]) Z Z) Z λs=>aM<|aT<|bU Z<|dL 1 Z<|aC (iX Z (bT (i:=4) (j:=5) Z Z bQ) Z) Z<|aD Z<|aM<|aJ<|zK (B:=eW) (λt=>rX e t=some r) (λt u=>[(3,vP q),(4,vP s)]) (λt u=>[bV s [kE,kE] 29,bV q [f,g] 29,Ar cD f e.1,Ar cT.raw g u,kF bZ u t]) (λt u=>[Sl bM n a.2.1,Sl bM m a.2.2.1,Sl bM o a.2.2.2.1]) ?_ ?_
 ·refine aT<|aA Z<|aD Z<|aM<|aU<|Dq (B:=eW) (nQ U a e) (λb d=>[(2,vP v),(3,vP q),(4,vP s),(5,vI (List.length e.2:Int)),(6,vI (b.1))]) (λb d=>[bV s [kE,kE] 29,bV q [f,g] 29,bV v [vI (a.1),n,m,o,vB (a.2.2.2.2.1),vB (a.2.2.2.2.2)] 24,Ar cD f e.1,Ar cT.raw g d,kF bZ d b.2]) (λb d=>[Sl bM n a.2.1,Sl bM m a.2.2.1,Sl bM o a.2.2.2.1]) ((List.length e.2:Int),e.2) (O) h SF (aY.refl _) (aF.refl _ _) ?_;intro J b d h;refine aJ<|aJ<|zK (B:=Unit) (λk=>kX U a e b (bL (nQ U a e) J) k=some r) (λk p=>[(2,vP v),(3,vP q),(4,vP s),(5,vI (List.length e.2:Int)),(6,vI (b.1)),(20,vB (k))]) (λk p=>[bV s [kE,kE] 29,bV q [f,g] 29,bV v [vI (a.1),n,m,o,vB (a.2.2.2.2.1),vB (a.2.2.2.2.2)] 24,Ar cD f e.1,Ar cT.raw g d,kF bZ d b.2]) (λk p=>[Sl bM n a.2.1,Sl bM m a.2.2.1,Sl bM o a.2.2.2.1]) ?_ ?_
  ·refine aQ<|aA Z<|cQ Z<|bU Z<|dL 2 Z<|jX (aE.fact 0 Z) Z<|dA Z<|aA Z ?_;refine Es h Z (λ_ h=>?_) λ_ h=>?_
   ·refine e_ Z<|aX Z (Ib Z Z) Z<|fF Z<|aM ?_;exact jL (decide (b.1<(60:Int))) () h SF Z
   refine aN Z<|aN Z<|iP Z<|aM ?_;exact jL (false) () h SF Z
  intro k p h;refine A_ h Z (λ_ h=>?_) λ_ h=>?_
  ·refine cU<|aJ<|aU ?_;refine JR.start [0,0,0,4,0,28,60,0,252,0,512,0,2048,7680,15872,0,65532,0,131072,0,1048572,2097148,4194300,8388607] 23 mixedOrders (by decide +kernel) ?_;refine JR.open (by exact rfl) ?_;refine kS 2 Z<|kS 1 Z<|cR Z<|gY 2 Z<|bH Z<|dO h λE h=>bJ Z .nil (mE 0 Z) (bE Z Z (aE.fact 0 Z) Z Z E) aO.z<|bJ Z .nil (mE 0 Z) (b_ Z (aE.fact 0 Z) Z Z Z dU E) aO.z<|bH Z<|eZ h λK w h=>JR.loud Z Z Z (aL.callQ CG (kM U  K w) Z .nil) Z (λP=>(rY [([1],[]),([2],[])] Z)) λP=>iD Z (eQ Z Z Z Z Z)<|bJ Z (aY.cons 2 Z .nil) .nil (fV 0 Z Z Z Z Z) (aO.h (aY.ix [2] Z Z) .nil aO.z)<|iD Z (iY Z)<|iD Z (xY Z Z)<|dO h λF h=>bJ Z .nil (mE 0 Z) (bE Z Z (aE.fact 0 Z) Z Z F) (aO.h .nil (mE 0 Z) aO.z)<|bJ Z .nil (mE 0 Z) (b_ Z (aE.fact 0 Z) Z Z Z dU F) (aO.h .nil (mE 0 Z) aO.z)<|iD Z (iY Z)<|eZ h λL y h=>JR.loud Z Z Z (aL.callQ CG (kM U  L y) Z .nil) Z (λQ=>(rY [([1],[]),([2],[])] Z)) λQ=>iD Z (eQ Z Z Z Z Z)<|bJ Z (aY.cons 2 Z .nil) .nil (fV 0 Z Z Z Z Z) (aO.h (aY.ix [2] Z Z) .nil (aO.h (aY.ix [2] Z Z) .nil aO.z))<|iD Z (iY Z)<|eZ h λM A h=>JR.loud Z Z Z (aL.callQ Ih (Al U m M A) Z (nK [1] Z)) Z (λR=>(rY [([1],[]),([2],[])] Z)) λR=>eZ h λN C h=>JR.loud Z Z Z (aL.callQ CG (kM U  N C) Z .nil) Z (λS=>(rY [([1],[]),([2],[])] Z)) λS=>iD Z (xY Z Z)<|bR 23 Z Z<|eZ h λG D h=>aG (Ej (Min:=[Ar cT.raw g d,kF bZ d b.2]) (Mr:=[bV s [kE,kE] 29,bV q [f,g] 29,bV v [vI (a.1),n,m,o,vB (a.2.2.2.2.1),vB (a.2.2.2.2.2)] 24,Ar cD f e.1]) UE (Ag U n m o f g d G D) Z (aY.ix [4,5,0,1,2,3] Z Z) (aF.cons (aE.fact 0 Z) (aF.cons (aE.fact 1 Z) (aF.cons (aE.fact 2 Z) (aF.cons (bG (aE.res 3 Z) eG) .nil)))) (λ_ _=>rfl)) Z λT=>eN<|oM<|aQ<|aA Z<|cQ Z<|aD Z<|aM ?_;exact lM ((wI .i64 (b.1+(2:Int))),G) (T) h SF (aY.ix [2,3,4,5,0,1] Z Z) (aF.refl _ _)
  refine fS ?_;exact cV (b.2) (d) h SF (aY.ix [0,1,3,4,5] Z Z) (aF.refl _ _)
 intro t u h;unfold rX at h;refine aT<|dW 1 Z<|bX (Know.one ((bG (aE.res 2 Z) eG))) λH=>bX (Know.one (aE.sl (bT (i:=3) (j:=4) Z Z bQ))) λI=>bN 0 (vs:=[f,g]) Z Z (jK H (jK I Z)) Z Z Z<|aM<|aS ?_;cases h;exact gJ (f,g,u) Z Z (RV.cell 0 Z Z Z Z) (aY.ix [2,3,4] Z Z) aF.nil
def CV  (a:Bool):Option (Bool):=
 some (a)
def tY (a:Nat) (b:Int) (c:Int) (d:Int):Option (Bool):=
 if c<=b then(CV  (decide (b<=d)))else(CV  (false))
def yN  (a:Unit):Option (Bool):=
 some (true)
def yO (b:Int) (a:(Int)->Option (Bool)) (c:Unit):Option (Bool):=
 a (wI .i64 (b+(1:Int)))
def jE (d:eS) (b:Int) (e:(Int)->Option (Bool)) (a:Int) (c:(Int)->Option (Bool)):Option (Bool):=
 if a<b then(ck (0<=a∧a<(List.length d:Int)) (ck (0<=b∧b<(List.length d:Int)) (if((at' d a).1)=((at' d b).1)then(some (false))else(c (wI .i64 (a+(1:Int)))))))else(yO b e (()))
def k_ (a:Nat) (e:eS) (d:Int) (c:(Int)->Option (Bool)) (b:Bool):Option (Bool):=
 if b=true then(some (false))else(bL (jE e d c) a (0:Int))
def nX (a:Nat) (c:eS) (g:Int) (h:Int) (b:Int) (d:(Int)->Option (Bool)):Option (Bool):=
 if b<(List.length c:Int)then(ck (0<=b∧b<(List.length c:Int)) (Option.bind (tY a ((at' c b).1) (0:Int) (wI .i64 (h - (1:Int)))) λe=>(if(!e)=true then(k_ a c b d (true))else(ck (0<=b∧b<(List.length c:Int)) (if((at' c b).1)=g then(k_ a c b d (true))else(ck (0<=b∧b<(List.length c:Int)) (Option.bind (tY a ((at' c b).2) (1:Int) (15:Int)) λf=>(k_ a c b d ((!f))))))))))else(yN  (()))
def pH (a:Nat) (b:eS) (c:Int) (d:Int):Option (Bool):=
 bL (nX a b c d) a (0:Int)
def JA  (a:Unit):Option (Int):=
 some (-1:Int)
def AS (c:cE) (a:Int) (e:Int) (b:Int) (d:(Int)->Option (Int)):Option (Int):=
 ck (0<=a∧a<(List.length c.2:Int)) (if b<(List.length (at' c.2 a):Int)then(ck (0<=a∧a<(List.length c.2:Int)) (ck (0<=b∧b<(List.length (at' c.2 a):Int)) (if((at' (at' c.2 a) b).1)=e then(some (b))else(d (wI .i64 (b+(1:Int)))))))else(JA  (())))
def BJ (a:Nat) (b:cE) (c:Int) (d:Int):Option (Int):=
 bL (AS b c d) a (0:Int)
def CW  (a:Unit):Option (Bool):=
 some (true)
def CX (b:Int) (a:(Int)->Option (Bool)) (c:Unit):Option (Bool):=
 a (wI .i64 (b+(1:Int)))
def Aa (b:Int) (a:(Int)->Option (Bool)) (c:Bool):Option (Bool):=
 if c=true then(some (false))else(a (wI .i64 (b+(1:Int))))
def mD (g:Nat) (c:cE) (a:Int) (f:(Int)->Option (Bool)) (b:Int) (e:(Int)->Option (Bool)):Option (Bool):=
 ck (0<=a∧a<(List.length c.2:Int)) (if b<(List.length (at' c.2 a):Int)then(ck (0<=a∧a<(List.length c.2:Int)) (ck (0<=b∧b<(List.length (at' c.2 a):Int)) (Option.bind (BJ g ((c.1,c.2)) ((at' (at' c.2 a) b).1) a) λd=>(if d<(0:Int)then(Aa b e (true))else(ck (0<=((at' (at' c.2 a) b).1)∧((at' (at' c.2 a) b).1)<(List.length c.2:Int)) (ck (0<=d∧d<(List.length (at' c.2 ((at' (at' c.2 a) b).1)):Int)) (Aa b e (decide (((at' (at' c.2 ((at' (at' c.2 a) b).1)) d).2)≠((at' (at' c.2 a) b).2))))))))))else(CX a f (())))
def qX (a:Nat) (d:cE) (b:Int) (c:(Int)->Option (Bool)):Option (Bool):=
 if b<(List.length d.2:Int)then(bL (mD a d b c) a (0:Int))else(CW  (()))
def z_ (a:Nat) (b:cE) (c:Unit):Option (Bool):=
 bL (qX a b) a (0:Int)
def CY (b:Int) (a:(Int)->Option (Bool)) (c:Unit):Option (Bool):=
 a (wI .i64 (b+(1:Int)))
def oT (e:cE) (a:Int) (c:(Int)->Option (Bool)) (b:Int) (d:(Int)->Option (Bool)):Option (Bool):=
 if b<a then(ck (0<=b∧b<(List.length e.1:Int)) (ck (0<=a∧a<(List.length e.1:Int)) (if(at' e.1 b)=(at' e.1 a)then(some (false))else(d (wI .i64 (b+(1:Int)))))))else(CY a c (()))
def qW (b:Nat) (e:cE) (c:Int) (a:(Int)->Option (Bool)) (d:Bool):Option (Bool):=
 if d=true then(some (false))else(bL (oT e c a) b (0:Int))
def qY (b:Nat) (c:cE) (a:Int) (d:(Int)->Option (Bool)):Option (Bool):=
 if a<(List.length c.2:Int)then(ck (0<=a∧a<(List.length c.1:Int)) (Option.bind (tY b (at' c.1 a) (0:Int) (255:Int)) λe=>(if(!e)=true then(qW b c a d (true))else(ck (0<=a∧a<(List.length c.2:Int)) (if(List.length c.2:Int)<=(List.length (at' c.2 a):Int)then(qW b c a d (true))else(ck (0<=a∧a<(List.length c.2:Int)) (Option.bind (pH b (at' c.2 a) a (List.length c.2:Int)) λf=>(qW b c a d ((!f))))))))))else(z_ b c (()))
def zZ (a:Nat) (c:cE) (b:Bool):Option (Bool):=
 if b=true then(some (false))else(bL (qY a c) a (0:Int))
def xE (a:Nat) (b:cE):Option (Bool):=
 Option.bind (tY a (List.length b.2:Int) (1:Int) (24:Int)) λc=>(if(!c)=true then(zZ a b (true))else(zZ a b (decide ((List.length b.1:Int)≠(List.length b.2:Int)))))
def zT  (a:aP):Option aP:=
 some (a)
def zU (b:mN) (a:wD->Option aP) (c:aP):Option aP:=
 a ((wI .i64 (b.1+(1:Int))),c)
def zV (b:mN) (a:wD->Option aP) (c:aP):Option aP:=
 a ((wI .i64 (b.1+(1:Int))),c)
def uA (b:mN) (a:wD->Option aP) (c:aP):Option aP:=
 a ((wI .i64 (b.1+(1:Int))),c)
def t_ (f:cE) (d:mN) (b:mN) (e:wD->Option aP) (a:mN) (c:wD->Option aP) (g:Bool):Option aP:=
 if g=true then(ck (0<=b.1∧b.1<(List.length f.2:Int)) (ck (0<=a.1∧a.1<(List.length (at' f.2 b.1):Int)) (ck (0<=((at' (at' f.2 b.1) a.1).1)∧((at' (at' f.2 b.1) a.1).1)<(List.length a.2:Int)) (if(at' a.2 ((at' (at' f.2 b.1) a.1).1))=(wI .i64 (d.1 - (1:Int)))then(ck (0<=b.1∧b.1<(List.length a.2:Int)) (uA a c (List.set a.2 (Int.toNat b.1) d.1)))else(uA a c (a.2))))))else(zV b e (a.2))
def uB (f:cE) (e:mN) (a:mN) (c:wD->Option aP) (b:mN) (d:wD->Option aP):Option aP:=
 ck (0<=a.1∧a.1<(List.length f.2:Int)) (if b.1<(List.length (at' f.2 a.1):Int)then(ck (0<=a.1∧a.1<(List.length b.2:Int)) (t_ f e a c b d (decide ((at' b.2 a.1)<(0:Int)))))else(t_ f e a c b d (false)))
def zX (e:Nat) (f:cE) (b:mN) (c:wD->Option aP) (a:mN) (d:wD->Option aP):Option aP:=
 if a.1<(List.length f.2:Int)then(bL (uB f b a d) e ((0:Int),a.2))else(zU b c (a.2))
def zW (b:Nat) (d:cE) (a:mN) (c:wD->Option aP):Option aP:=
 if a.1<(List.length d.2:Int)then(bL (zX b d a c) b ((0:Int),a.2))else(zT  (a.2))
def zS (a:Nat) (d:cE) (b:Int) (c:aP):Option aP:=
 ck (0<=b∧b<(List.length c:Int)) (bL (zW a d) a ((1:Int),(List.set c (Int.toNat b) (0:Int))))
def zY (c:Nat) (d:cE) (e:Int) (a:aP×Int) (b:(aP×Int)->Option aP):Option aP:=
 if a.2<(List.length d.2:Int)then(ck ((List.length a.1:Int)+(List.length ([(-1:Int)]):Int)<=1099511627) (b ((a.1++([(-1:Int)])),(wI .i64 (a.2+(1:Int))))))else(zS c d e (a.1))
def tZ (a:Nat) (c:cE) (d:Int) (b:Bool):Option aP:=
 if b=true then(some ([]:aP))else(bL (zY a c d) a (([]:aP),(0:Int)))
def AC (a:Nat) (b:cE) (c:Int):Option aP:=
 Option.bind (xE a ((b.1,b.2))) λd=>(if(!d)=true then(tZ a b c (true))else(Option.bind (tY a c (0:Int) (wI .i64 ((List.length b.2:Int) - (1:Int)))) λe=>(tZ a b c ((!e)))))
def qA  (a:Int):Option (Int):=
 some (a)
def vH (c:aP) (a:fG) (b:iQ->Option (Int)):Option (Int):=
 if a.2<(List.length c:Int)then(ck (0<=a.2∧a.2<(List.length c:Int)) (b ((max a.1 (at' c a.2)),(wI .i64 (a.2+(1:Int))))))else(qA  (a.1))
def lJ (U:Nat) (a:aP):Option (Int):=
 bL (vH a) U ((-1:Int),(0:Int))
theorem aaJ:aR Tryz.prog 62:=Tryz.call62
theorem Gz (U:Nat) {e:aP} (f:Value) (r:Int) (h:lJ U e=some r):
  aV Tryz.prog 62 #[f] [Sl bM f e] (λx:Unit=>vI (r)) (λx l=>l) (λ_ l=>l):=by
 refine aV.of Tryz.func62 Z Tryz.ntmps62 Z λc=>?_;unfold lJ at h;refine aT<|aD Z<|aM<|aT<|aD Z<|aM<|aJ<|fU (λb=>qA  b=some r) (λb g=>[(3,vI (b))]) (λb g=>[]) ?_ ?_
 ·refine aT<|aA Z<|jX (aE.fact 0 Z) Z<|aA Z<|aM<|aU<|fD (vH e) (λa i=>[(3,vI (a.1)),(6,f),(7,vI (List.length e:Int)),(8,vI (a.2))]) (λa i=>[]) ((-1:Int),(0:Int)) () h SF (aY.refl _) ?_;intro j a i h;refine aT<|dA Z<|aM<|aJ ?_;refine fE h Z (λh=>?_) λh=>?_
  ·refine cU<|aJ<|aU<|aT<|dO h λd h=>aC (bE Z Z (aE.fact 0 Z) Z Z d) Z<|aC (b_ Z (aE.fact 0 Z) Z Z Z dU d) Z<|aD Z<|aM<|aQ<|aA Z<|aA Z<|aC (Ic Z Z) Z<|aD Z<|eN<|oM<|aQ<|cQ Z<|aA Z<|aM ?_;exact AK ((max a.1 (at' e a.2)),(wI .i64 (a.2+(1:Int)))) () h SF Z
  refine fS ?_;exact jL (a.1) () h SF Z
 intro b g h;unfold qA at h;refine aT<|aA Z<|aD Z<|aM<|aS ?_;cases h;exact kW Z
def jU (U:Nat) (a:cE) (c:Int) (b:Bool):Option (Int):=
 if b=true then(some (-1:Int))else(Option.bind (jA U ((a.1,a.2)) c) λd=>(Option.bind (lJ U d) λe=>(some (e))))
def iO (U:Nat) (a:cE) (b:Int):Option (Int):=
 Option.bind (eV U ((a.1,a.2))) λc=>(if(!c)=true then(jU U a b (true))else(if b<(0:Int)then(jU U a b (true))else(jU U a b (decide ((List.length a.2:Int)<=b)))))
theorem aaB:aR Tryz.prog 40:=Tryz.call40
theorem Dg (U:Nat) {f:cE} {g:Int} (b:Value)  (d:Value)  (m:lA) (r:Int) (h:iO U f g=some r):
  aV Tryz.prog 40 #[Value.agg #[b,d],vI (g)] [Sl bM b f.1,S2 a_ d m f.2] (λx:Unit=>vI (r)) (λx l=>l) (λ_ l=>l):=by
 refine aV.of Tryz.func40 Z Tryz.ntmps40 Z λc=>?_;refine aT<|aG (aL.box (cs:=[b,d]) Z Z) Z λn=>aD Z<|aM<|aJ<|aJ<|fU (λe=>jU U f g e=some r) (λe o=>[(1,vI (g)),(2,vP n),(18,vB (e))]) (λe o=>[bV n [b,d] 29]) ?_ ?_
 ·refine aQ<|dW 0 Z<|eZ h λi k h=>aG (aL.callQ Pd (wB U b d m i k) Z (nK [0,1] Z)) Z λu=>aC (sK Z) Z<|aA Z ?_;refine Bm (by exact rfl) (by exact rfl) (λa=>?_) (λa=>?_)
  ·have h:=Ra a h;refine aN Z<|aN Z<|fF Z<|aA Z<|aN Z<|aN Z<|aN Z<|aN Z<|aN Z<|fF Z<|aM ?_;exact jL (true) () h SF Z
  have h:=Ni a h;refine e_ Z<|aX Z (Ib Z Z) Z<|iP Z<|aA Z ?_;refine Es h Z (λ_ h=>?_) λ_ h=>?_
  ·refine aN Z<|aN Z<|aN Z<|aN Z<|aN Z<|fF Z<|aM ?_;exact jL (true) () h SF Z
  refine e_ Z<|aX Z (eQ Z Z Z Z Z) Z<|aX Z (fV 0 Z Z Z Z Z) Z<|aX Z (iX Z (aE.fact 1 Z) Z) Z<|aX Z (EV Z Z) Z<|iP Z<|aM ?_;exact jL (decide ((List.length f.2:Int)<=g)) () h SF Z
 intro e o h;refine A_ h Z (λ_ h=>?_) λ_ h=>?_
 ·refine aT<|aD Z<|aM<|aS<|aI ?_;cases h;exact uU Z
 refine cU<|aT<|dW 0 Z<|aA Z<|eZ h λp s h=>aG (aL.callQ Pe (Ak U b d m p s) Z (nK [0,1] Z)) Z λv=>eZ h λq j h=>aG (aL.callQ aaJ (Gz U v q j) Z (aF.cons (bG (aE.res 0 Z) eG) .nil)) Z λt=>aD Z<|aM<|aS ?_;cases h;exact uU Z
def vQ (U:Nat) (a:ByteArray) (b:Int) (c:Int) (d:Int):Option ((ByteArray×Int×Int×Int×Int×Int)):=
 some ((a,(1:Int),(0:Int),b,c,d))
theorem UC:aR Tryz.prog 32:=Tryz.call32
theorem Dj (U:Nat) {a:ByteArray} {b:Int} {d:Int} {e:Int} (r:Oa) (h:vQ U a b d e=some r):
  aV Tryz.prog 32 #[vS (a),vI (b),vI (d),vI (e)] [] (λx:Unit=>Value.agg #[vS (r.1),vI (r.2.1),vI (r.2.2.1),vI (r.2.2.2.1),vI (r.2.2.2.2.1),vI (r.2.2.2.2.2)]) (λx l=>l) (λ_ l=>l):=by
 refine aV.of Tryz.func32 Z Tryz.ntmps32 Z λc=>?_;unfold vQ at h;refine aT<|aG (aL.alloc (cs:=vD3) Z Z) Z λf=>aM<|aT<|aA Z<|aA Z<|aA Z<|aA Z ?_;refine aC (Y.bld5 (r:=Value.agg #[vS (a),vI (1:Int),vI (0:Int),vI (b),vI (d),vI (e)]) Z Z Z Z Z (by intro w;simp[Instr.build,Instr.fill,dH,cW,cH,dJ,dK,cX,eI])) Z ?_;refine bN 0 (vs:=[vS (a),vI (1:Int),vI (0:Int),vI (b),vI (d),vI (e)]) Z Z Z Z Z Z<|aM<|aS ?_;cases h;exact gJ () Z Z (RV.cell 0 Z Z Z Z) .nil aF.nil
def yD (U:Nat) (a:ByteArray):Option ((ByteArray×Int×Int×Int×Int×Int)):=
 some ((a,(3:Int),(0:Int),(0:Int),(0:Int),(0:Int)))
theorem aaQ:aR Tryz.prog 84:=Tryz.call84
theorem Hl (U:Nat) {a:ByteArray} (r:Oa) (h:yD U a=some r):
  aV Tryz.prog 84 #[vS (a)] [] (λx:Unit=>Value.agg #[vS (r.1),vI (r.2.1),vI (r.2.2.1),vI (r.2.2.2.1),vI (r.2.2.2.2.1),vI (r.2.2.2.2.2)]) (λx l=>l) (λ_ l=>l):=by
 refine aV.of Tryz.func84 Z Tryz.ntmps84 Z λc=>?_;unfold yD at h;refine aT<|aG (aL.alloc (cs:=vD3) Z Z) Z λb=>aM<|aT<|aA Z ?_;refine aC (Br (r:=Value.agg #[vS (a),vI (3:Int),vI (0:Int),vI (0:Int),vI (0:Int),vI (0:Int)]) Z Z (by intro w;simp[Instr.build,Instr.fill,dH,cW,cH,dJ,dK,cX,eI])) Z ?_;refine bN 0 (vs:=[vS (a),vI (3:Int),vI (0:Int),vI (0:Int),vI (0:Int),vI (0:Int)]) Z Z Z Z Z Z<|aM<|aS ?_;cases h;exact gJ () Z Z (RV.cell 0 Z Z Z Z) .nil aF.nil
def Fi (U:Nat)  : Option WN:=
 Option.bind (vQ U (ByteArray.mk #[100]) (0:Int) (1:Int) (0:Int)) λa=>(Option.bind (yD U (ByteArray.mk #[112])) λb=>(some ([(a.1,a.2.1,a.2.2.1,a.2.2.2.1,a.2.2.2.2.1,a.2.2.2.2.2),(b.1,b.2.1,b.2.2.1,b.2.2.2.1,b.2.2.2.2.1,b.2.2.2.2.2)])))
theorem aaF:aR Tryz.prog 55:=Tryz.call55
theorem LV (U:Nat)  (r:WO) (h:Fi U  = some r):
  aV Tryz.prog 55 #[] [] (λx:Value=>x) (λx l=>Ar gN x r::l) (λ_ l=>l):=by
 refine aV.of Tryz.func55 Z Tryz.ntmps55 Z λc=>?_;refine aT<|aD Z<|aM<|aT<|eZ h λa f h=>aG (aL.callQ UC (Dj U  a f) Z .nil) Z λi=>eZ h λb g h=>aG (aL.callQ aaQ (Hl U  b g) Z .nil) Z λj=>aG (bW (e:=gN) ([((a.1,a.2.1,a.2.2.1,a.2.2.2.1,a.2.2.2.2.1,a.2.2.2.2.2)),((b.1,b.2.1,b.2.2.1,b.2.2.2.1,b.2.2.2.2.1,b.2.2.2.2.2))]) [(0,Value.agg #[vS (a.1),vI (a.2.1),vI (a.2.2.1),vI (a.2.2.2.1),vI (a.2.2.2.2.1),vI (a.2.2.2.2.2)]),(1,Value.agg #[vS (b.1),vI (b.2.1),vI (b.2.2.1),vI (b.2.2.2.1),vI (b.2.2.2.2.1),vI (b.2.2.2.2.2)])] Z Z Z Z (IC (vS (a.1)) (vI (a.2.1)) (vI (a.2.2.1)) (vI (a.2.2.2.1)) (vI (a.2.2.2.2.1)) (vI (a.2.2.2.2.2)) (vS (b.1)) (vI (b.2.1)) (vI (b.2.2.1)) (vI (b.2.2.2.1)) (vI (b.2.2.2.2.1)) (vI (b.2.2.2.2.2))) Z Z Z) Z λd=>aD Z<|aM<|aS ?_;cases h;exact gJ (d) Z Z (RV.tmp Z) (aY.refl _) aF.nil
def fT (U:Nat) (a:Cu) (d:Int):Option rU:=
 Option.bind (lV U ((a.1,a.2.1,a.2.2.1,a.2.2.2.1,a.2.2.2.2.1,a.2.2.2.2.2)) d) λb=>(Option.bind (lX U ((a.1,a.2.1,a.2.2.1,a.2.2.2.1,a.2.2.2.2.1,a.2.2.2.2.2)) ((b.1,b.2))) λc=>(some ((c.1,c.2))))
theorem ady:aR Tryz.prog 7:=Tryz.call7
theorem Bi (U:Nat) {a:Cu} {o:Int} (d:Value)  (e:Value)  (f:Value) (r:(aP×eY)) (h:fT U a o=some r):
  aV Tryz.prog 7 #[Value.agg #[vI (a.1),d,e,f,vB (a.2.2.2.2.1),vB (a.2.2.2.2.2)],vI (o)] [Sl bM d a.2.1,Sl bM e a.2.2.1,Sl bM f a.2.2.2.1] (λx:Value×Value×List Value=>Value.agg #[x.1,x.2.1]) (λx l=>Ar cD x.1 r.1::Ar cT.raw x.2.1 x.2.2::kF bZ x.2.2 r.2::l) (λ_ l=>l):=by
 refine aV.of Tryz.func7 Z Tryz.ntmps7 Z λc=>?_;refine aT<|aG (aL.box (cs:=[vI (a.1),d,e,f,vB (a.2.2.2.2.1),vB (a.2.2.2.2.2)]) Z Z) Z λp=>aG (aL.alloc (cs:=[kE,kE]) Z Z) Z λq=>aM<|aJ ?_;refine JR.start [0,0,0,6,15,31] 4 mixedOrders (by decide +kernel) ?_;refine JR.open (by exact rfl) ?_;refine kS 1 Z<|kS 1 Z<|bH Z<|eZ h λn t h=>JR.loud Z Z Z (aL.callQ UB (Af U d e f n t) Z (nK [0,1,2] Z)) Z (λb=>(rY [([4],[])] Z)) λb=>bR 4 Z Z<|eZ h λs u h=>aG (Ej (Min:=[Ar cD b.1 n.1,Ar cT.raw b.2.1 b.2.2,kF bZ b.2.2 n.2]) (Mr:=[bV q [kE,kE] 29,bV p [vI (a.1),d,e,f,vB (a.2.2.2.2.1),vB (a.2.2.2.2.2)] 24]) aaw (EA U d e f b.1 b.2.1 b.2.2 s u) Z (aY.refl _) (nK [0,1,2] Z) (λ_ _=>rfl)) Z λk=>bX (Know.one ((bG (aE.res 0 Z) eG))) λm=>bX (Know.one (aE.sl (bT (i:=1) (j:=2) Z Z bQ))) λg=>bN 3 (vs:=[k.1,k.2.1]) Z Z (jK m (jK g Z)) Z Z Z<|aM<|aS ?_;cases h;exact gJ (k.1,k.2.1,k.2.2) Z Z (RV.cell 3 Z Z Z Z) (aY.ix [0,1,2] Z Z) aF.nil
def xS (U:Nat) (a:cE):Option (Int):=
 ck (0<=(List.length a.1:Int)) (some (wI .u32 ((Bv .u32 (1:Int) (List.length a.1:Int)) - (1:Int))))
theorem aaP:aR Tryz.prog 80:=Tryz.call80
theorem NW (U:Nat) {a:cE} (b:Value)  (d:Value)  (f:lA) (r:Int) (h:xS U a=some r):
  aV Tryz.prog 80 #[Value.agg #[b,d]] [Sl bM b a.1,S2 a_ d f a.2] (λx:Unit=>vU (r)) (λx l=>l) (λ_ l=>l):=by
 refine aV.of Tryz.func80 Z Tryz.ntmps80 Z λc=>?_;refine aT<|aG (aL.box (cs:=[b,d]) Z Z) Z λg=>aD Z<|aM<|aT<|bU Z<|dL 0 Z<|jX (aE.fact 0 Z) Z<|dO h λe h=>aC (MN Z Z e) Z<|aC (pX Z Z) Z<|aD Z<|aM<|aS ?_;cases h;exact uU Z
def xZ  (a:Unit):Option (Int):=
 some (-1:Int)
def tA (c:cE) (d:Int) (e:Int) (a:Int) (b:(Int)->Option (Int)):Option (Int):=
 if a<(List.length (at' c.2 d):Int)then(ck (0<=a∧a<(List.length (at' c.2 d):Int)) (if((at' (at' c.2 d) a).1)=e then(some (a))else(b (wI .i64 (a+(1:Int))))))else(xZ  (()))
def lY (U:Nat) (b:cE) (a:Int) (c:Int):Option (Int):=
 ck (0<=a∧a<(List.length b.2:Int)) (bL (tA b a c) U (0:Int))
theorem UJ:aR Tryz.prog 92:=Tryz.call92
theorem Dh (U:Nat) {a:cE} {b:Int} {i:Int} (j:Value)  (k:Value)  (o:lA) (r:Int) (h:lY U a b i=some r):
  aV Tryz.prog 92 #[Value.agg #[j,k],vI (b),vI (i)] [Sl bM j a.1,S2 a_ k o a.2] (λx:Unit=>vI (r)) (λx l=>l) (λ_ l=>l):=by
 refine aV.of Tryz.func92 Z Tryz.ntmps92 Z λc=>?_;refine aT<|aG (aL.box (cs:=[j,k]) Z Z) Z λq=>aD Z<|aM<|aJ<|fU (λg=>xZ  g=some r) (λg m=>[]) (λg m=>[]) ?_ ?_
 ·refine aT<|bU Z<|dL 0 Z<|aA Z<|dO h λe h=>aC (c_ Z Z (aE.fact 1 Z) Z Z e) Z<|aC (dB Z (aE.fact 1 Z) Z Z e) Z<|aC (iU Z (aE.el (aE.fact 1 Z) e.1 e.2) Z) Z<|aA Z<|aM<|aU<|fD (tA a b i) (λd n=>[(2,vI (i)),(13,(at' o b).1),(14,vI (List.length (at' a.2 b):Int)),(15,vI (d))]) (λd n=>[]) (0:Int) () h SF .nil ?_;intro s d n h;refine aT<|dA Z<|aM<|aJ ?_;refine fE h Z (λh=>?_) λh=>?_
  ·refine cU<|aJ<|aU<|aT<|aA Z<|dO h λf h=>aC (bE Z Z (aE.el (aE.fact 1 Z) e.1 e.2) Z Z f) Z<|aC (h_ (cs:=[vI ((at' (at' a.2 b) d).1),vI ((at' (at' a.2 b) d).2)]) Z (aE.el (aE.fact 1 Z) e.1 e.2) bQ Z Z Z Z f) Z<|aG (aL.alloc (cs:=Tz) Z Z) Z λp=>aD Z<|bN 0 (vs:=[vI ((at' (at' a.2 b) d).1),vI ((at' (at' a.2 b) d).2)]) Z Z Z Z Z Z<|aM<|aT<|bU Z<|dL 0 Z<|aA Z<|cJ Z<|aM ?_;refine fE h Z (λh=>?_) λh=>?_
   ·refine aT<|aA Z<|aD Z<|aM<|aS<|bO<|aI<|aI<|bO<|aI ?_;cases h;exact uU Z
   refine dX<|oM<|aQ<|cQ Z<|aA Z<|aM ?_;exact lM (wI .i64 (d+(1:Int))) () h SF .nil (aF.refl _ _)
  refine fS ?_;exact jL () (()) h SF Z
 intro g m h;unfold xZ at h;refine aT<|aD Z<|aM<|aS ?_;cases h;exact kW Z
end Go.Proofs.YtmdlcmbplnhdnaaGreatDoor