/- Models and proofs. Conditions: none. -/
import Derived.Test.YtmdlcmbplnhdnaaGreatDoorZROn5
import Derived.Test.YtmdlcmbplnhdnaaGreatDoorZROn4
import Derived.Test.YtmdlcmbplnhdnaaGreatDoorZROn2
import Derived.KernelRfl
set_option linter.unusedVariables false
set_option linter.unusedSimpArgs false
set_option maxHeartbeats 4000000
set_option maxRecDepth 20000
namespace Go.Gx
open Go Go.Sx Go.RowKit
mutual
def FZ (k:Nat):GV->GV
 | .ptr h o=> .ptr (k+h) o
 | .sl h o l s=> .sl (k+h) o l s
 | .map h=> .map (k+h)
 | .fn f a b=> .fn f (UF k a) (UF k b)
 | .agg cs=> .agg (UF k cs)
 | .tup vs=> .tup (UF k vs)
 | .int a b=> .int a b
 | .bool b=> .bool b
 | .str a b=> .str a b
 | .pnil=> .pnil
 | .snil=> .snil
 | .fnil=> .fnil
 | .inil=> .inil
 | .un=> .un
 | .bad=> .bad
 | .opn h=> .opn (k+h)
def UF (k:Nat):List GV->List GV
 | []=>[]
 |v::r=>FZ k v::UF k r
end
theorem MJ (k:Nat):∀(l:List GV) (i:Nat),(UF k l)[i]? = (l[i]?).map (FZ k)
 | [],i=>rfl
 |v::r,0=>rfl
 |v::r,i+1=>by simpa [UF]using MJ k r i
theorem Ed (k:Nat):∀(l:List GV),(UF k l).length=l.length
 | []=>rfl
 |v::r=>by simp[UF,Ed k r]
def Yu (k:Nat):GO->GO
 | .cells cs=> .cells (UF k cs)
 | .mp es=> .mp (es.map λe=>(FZ k e.1,FZ k e.2))
def Ai (k:Nat) (l:Kx):Kx:={l with o:=Yu k l.o}
theorem Rl.shift {y e:dG} {k:Nat} (c:∀h l,y h=some l->e (k+h)=some (Ai k l)) {g:GV} {v:Value} (h:Rl y g v):Rl e (FZ k g) v:=by
 have d:∀{u:List GV} {j:fM},(∀(i:Nat) g v,u[i]? = some g->j[i]? = some v->Rl e (FZ k g) v)->∀(i:Nat) g v,(UF k u)[i]? = some g->j[i]? = some v->Rl e g v:=by
  intro u j D i g v x E;rw[MJ]at x;obtain⟨z,A,rfl⟩:=Option.map_eq_some_iff.1 x;exact D i z v A E
 induction h with
 |int a n=>simp only[FZ];exact .int a n
 |bool b=>simp only[FZ];exact .bool b
 |str s=>simp only[FZ];exact .str s
 |ptr t h=>simp only[FZ];exact .ptr (l:=Ai k _) t (c _ _ h)
 |pnil=>simp only[FZ];exact .pnil
 |sl h C B=>simp only[FZ];exact .sl (l:=Ai k _) (c _ _ h) C B
 |snil=>simp only[FZ];exact .snil
 |map h=>simp only[FZ];exact .map (l:=Ai k _) (c _ _ h)
 |fn f m w o G q r=>simp only[FZ];exact .fn f (by rw[Ed];exact m) (d q) (by rw[Ed];exact o) (d r)
 |fnil=>simp only[FZ];exact .fnil
 |inil=>simp only[FZ];exact .inil
 |agg m w o p=>simp only[FZ];exact .agg (by rw[Ed];exact m) (d p) o
 |tup m w p=>simp only[FZ];exact .tup (by rw[Ed];exact m) (d p)
 |un=>simp only[FZ];exact .un
 |bad v=>simp only[FZ];exact .bad v
 |opn v h F=>simp only[FZ];exact .opn (l:=Ai k _) v (c _ _ h) F
abbrev OL:=List (Nat×Nat×GO)
def UD:OL->Nat->Option (Nat×GO)
 | [],_=>none
 |x::r,h=>if h=x.1 then some x.2 else UD r h
theorem Mw {b:OL} {h:Nat} {p:Nat×GO} (a:UD b h=some p):(h,p)∈b:=by
 induction b with
 |nil=>cases a
 |cons x r c=>
  simp only[UD]at a;split at a
  ·rename_i e;cases a;subst e;exact List.mem_cons_self
  ·exact List.mem_cons_of_mem _ (c a)
noncomputable def OG (k:Nat) (t:Tr (Nat×GO)):OL->Tr (Nat×GO)
 | []=>t
 |x::r=>(OG k t r).set (some (k+x.2.1,Yu k x.2.2)) (k+x.1)
noncomputable def aaA:OL->Tr (Nat×GO)
 | []=> .lf
 |x::r=>(aaA r).set (some x.2) x.1
theorem Dh:∀(a:OL) (h:Nat),(aaA a).get h=UD a h
 | [],h=>rfl
 |x::r,h=>by
  show((aaA r).set (some x.2) x.1).get h=_;rw[qT];simp only[UD];split
  ·rfl
  ·exact Dh r h
theorem JM (k:Nat) (t:Tr (Nat×GO)):∀(b:OL) (h:Nat),(OG k t b).get h=if k<=h then(match UD b (h - k)with|some p=>some (k+p.1,Yu k p.2)|none=>t.get h)else t.get h
 | [],h=>by simp[OG,UD]
 | x :: r, h => by
  show((OG k t r).set (some (k+x.2.1,Yu k x.2.2)) (k+x.1)).get h=_;rw[qT,JM k t r h];by_cases e:h=k+x.1
  ·subst e;rw[if_pos Z,if_pos (by omega)];simp[UD]
  ·rw[if_neg e];by_cases a:k<=h
   ·rw[if_pos a,if_pos a];simp only[UD];rw[if_neg (show¬h - k=x.1 by omega)]
   ·rw[if_neg a,if_neg a]
noncomputable def Ir (n:Nat) (a:OL):GH:=⟨n,aaA a⟩
noncomputable def GH.load (H:GH) (n:Nat) (a:OL):GH:=⟨H.n+n,OG H.n H.t a⟩
section
variable {gs:xR} {w0:d_ gs} {w w':World} {ρ ρ2:dG} {H:GH} {n:Nat} {os:OL}
theorem gF {H:GH} {h:Nat} {o:GO}:H.get h=some o↔∃v,H.t.get h=some (v,o):=by
 unfold GH.get;cases c:H.t.get h with
 |none=>simp[ob]
 |some p=>obtain⟨a,b⟩:=p;simp[ob]
theorem qR {H:GH} {h v:Nat}:H.ver h=some v↔∃o,H.t.get h=some (v,o):=by
 unfold GH.ver;cases c:H.t.get h with
 |none=>simp[ob]
 |some p=>obtain⟨a,b⟩:=p;simp[ob]
theorem eQ.sub {d:GH} (R:eQ w0 ρ H w) (z:d.n=H.n) (m:∀h p,d.t.get h=some p->H.t.get h=some p):eQ w0 ρ d w:=by
 have g:∀h o,d.get h=some o->H.get h=some o:=λh o i=>by
  obtain⟨v,j⟩:=gF.1 i;exact gF.2 ⟨v,m _ _ j⟩
 refine⟨R.ext,λh o i=>R.live h o (g h o i),λh q o y l u e f=>R.inj h q o y l u (g _ _ e) (g _ _ f),λh r=>R.fresh h (by omega),λh r=>R.dense h (by omega),λh v l j s=> ?_,R.env⟩
 obtain⟨o,k⟩:=qR.1 j;obtain⟨x,a,b,c⟩:=R.vers h v l (qR.2 ⟨o,m _ _ k⟩) s;refine⟨x,a,b,?_⟩
 have e:=gF.2 ⟨v,k⟩;have f:=g _ _ e;rw[c]at f;cases f;exact e
theorem wH.shift {l:Kx} {o:GO} {f:dG} {k:Nat} (d:∀h l,ρ2 h=some l->f (k+h)=some (Ai k l)) (h:wH ρ2 w l o):wH f w (Ai k l) (Yu k o):=by
 cases o with
 |cells z=>
  obtain⟨j,T,r,s,t,y⟩:=h;refine⟨j,T,r,s,by rw[Ed];exact t,λi g e=> ?_⟩
  rw[MJ]at e;obtain⟨p,q,rfl⟩:=Option.map_eq_some_iff.1 e;obtain⟨v,a,b,c⟩:=y i p q;exact⟨v,a,b.shift d,c⟩
 |mp A=>
  obtain⟨x,u,r,s,t⟩:=h;refine⟨x,u,r,by simpa [Yu]using s,λi g e=> ?_⟩
  rw[List.getElem?_map]at e;obtain⟨p,q,rfl⟩:=Option.map_eq_some_iff.1 e;obtain⟨m,a,b,c⟩:=t i p q;exact⟨m,a,b.shift d,c.shift d⟩
theorem eQ.join {Y:xR} {hb:Hm Y w λ_=>False} (R:eQ w0 ρ H w) (M:eQ (d_.of w hb) ρ2 (Ir n os) w'):
  ∃s:dG,ρ.le s∧eQ w0 s (H.load n os) w'∧∀g v,Rl ρ2 g v->Rl s (FZ H.n g) v:=by
 let s:dG:=λh=>if h<H.n then ρ h else(ρ2 (h - H.n)).map (Ai H.n);have G:ρ.le s:=λh l f=>by
  have ac:h<H.n:=by
   rcases Nat.lt_or_ge h H.n with q|q
   ·exact q
   ·rw[R.fresh h q]at f;cases f
  show(if h<H.n then ρ h else _)=_;rw[if_pos ac];exact f
 have K:∀h l,ρ2 h=some l->s (H.n+h)=some (Ai H.n l):=λh l f=>by
  show(if H.n+h<H.n then _ else _)=_;rw[if_neg (by omega),show H.n+h - H.n=h by omega,f];rfl
 have k:∀h,h<H.n->s h=ρ h:=λh u=>by show(if h<H.n then ρ h else _)=_;rw[if_pos u]
 have d:∀h,H.n<=h->s h=(ρ2 (h - H.n)).map (Ai H.n):=λh u=>by show(if h<H.n then ρ h else _)=_;rw[if_neg (by omega)]
 have J:∀h,H.n<=h->H.t.get h=none:=λh u=>by
  cases y:H.t.get h with
  |none=>rfl
  |some p=>exact absurd (R.lt (gF.2 ⟨p.1,y⟩)) (by omega)
 have X:∀h,h<H.n->(H.load n os).t.get h=H.t.get h:=λh u=>by
  show(OG H.n H.t os).get h=_;rw[JM,if_neg (by omega)]
 have gh:∀h p,H.n<=h->(H.load n os).t.get h=some p->∃x,(Ir n os).t.get (h - H.n)=some x∧p=(H.n+x.1,Yu H.n x.2):=λh p u hp=>by
  have A:(OG H.n H.t os).get h=some p:=hp;rw[JM,if_pos u,J h u]at A;cases hk:UD os (h - H.n)with
  |none=>rw[hk]at A;cases A
  |some x=>rw[hk]at A;cases A;exact⟨x,(Dh os _).trans hk,rfl⟩
 have W:LD w w':=M.ext.ext;have L:∀l:Kx,(d_.of w hb).mine l.b->w.heap.size<=l.b:=λl h=>by
  rcases h with h|h
  ·exact h
  ·exact h.elim
 have r:∀h o,h<H.n->(H.load n os).get h=some o->∃l,ρ h=some l∧w0.mine l.b∧wH ρ w l o∧H.get h=some o:=λh o u y=>by
  obtain⟨v,N⟩:=gF.1 y;rw[X h u]at N;have z:=gF.2 ⟨v,N⟩;obtain⟨l,a,b,c⟩:=R.live h o z;exact⟨l,a,b,c,z⟩
 have m:∀h o,H.n<=h->(H.load n os).get h=some o->∃l O,ρ2 (h - H.n)=some l∧w.heap.size<=l.b∧wH ρ2 w' l O∧o=Yu H.n O∧(Ir n os).get (h - H.n)=some O:=λh o u y=>by
  obtain⟨v,N⟩:=gF.1 y;obtain⟨x,E,e⟩:=gh h _ u N;cases e;have z:(Ir n os).get (h - H.n)=some x.2:=gF.2 ⟨x.1,E⟩;obtain⟨l,a,b,c⟩:=M.live _ _ z;exact⟨l,x.2,a,L l b,c,rfl,z⟩
 refine⟨s,G,⟨R.ext.trans W,λh o y=> ?_,λh B o U l l' V E f j F=> ?_,λh u=> ?_,λh u=> ?_,λh v l N f=> ?_,λi v e=>let ⟨l,a,b⟩:=R.env i v e;⟨l,G _ _ a,b⟩⟩,λg v y=>y.shift K⟩
 ·rcases Nat.lt_or_ge h H.n with q|q
  ·obtain⟨l,a,b,c,_⟩:=r h o q y;exact⟨l,by rw[k h q];exact a,b,c.move G (W.block _ c.lt)⟩
  ·obtain⟨l,O,a,b,c,rfl,_⟩:=m h o q y;exact⟨Ai H.n l,by rw[d h q,a];rfl,.inl (Nat.le_trans R.ext.size b),c.shift K⟩
 ·rcases Nat.lt_or_ge h H.n with q|q<;>rcases Nat.lt_or_ge B H.n with I|I
  ·obtain⟨l1,C,_,_,P⟩:=r h o q V;obtain⟨T,D,_,_,Q⟩:=r B U I E;rw[k h q,C]at f;rw[k B I,D]at j;cases f;cases j;exact R.inj h B o U _ _ P Q C D F
  ·obtain⟨l1,C,_,c1,P⟩:=r h o q V;obtain⟨T,O,D,b2,_,rfl,Q⟩:=m B U I E;rw[k h q,C]at f;rw[d B I,D]at j;cases f;cases j;have:=c1.lt;simp only[Ai]at F;omega
  ·obtain⟨l1,o1,C,b1,_,rfl,P⟩:=m h o q V;obtain⟨T,D,_,c2,Q⟩:=r B U I E;rw[d h q,C]at f;rw[k B I,D]at j;cases f;cases j;have:=c2.lt;simp only[Ai]at F;omega
  ·obtain⟨l1,o1,C,b1,_,rfl,P⟩:=m h o q V;obtain⟨T,O,D,b2,_,rfl,Q⟩:=m B U I E;rw[d h q,C]at f;rw[d B I,D]at j;cases f;cases j;have:=M.inj _ _ _ _ _ _ P Q C D F;omega
 ·have aa:H.n+n<=h:=u;rw[d h (by omega),M.fresh (h - H.n) (by show n<=_;omega)];rfl
 ·have aa:h<H.n+n:=u;rcases Nat.lt_or_ge h H.n with q|q
  ·obtain⟨l,f⟩:=R.dense h q;exact⟨l,by rw[k h q];exact f⟩
  ·obtain⟨l,f⟩:=M.dense (h - H.n) (by show _<n;omega);exact⟨Ai H.n l,by rw[d h q,f];rfl⟩
 ·obtain⟨o,S⟩:=qR.1 N;rcases Nat.lt_or_ge h H.n with q|q
  ·rw[X h q]at S;rw[k h q]at f;obtain⟨lv,a,b,c⟩:=R.vers h v l (qR.2 ⟨o,S⟩) f;have y:=gF.2 ⟨v,S⟩;obtain⟨l',j,_,ck⟩:=R.live h o y;rw[f]at j;cases j;refine⟨lv,G _ _ a,by rw[W.block _ ck.lt];exact b,?_⟩
   obtain⟨v2,ad⟩:=gF.1 c;exact gF.2 ⟨v2,by rw[X h q];exact ad⟩
  ·obtain⟨x,E,e⟩:=gh h _ q S;cases e;rw[d h q]at f;obtain⟨T,ab,rfl⟩:=Option.map_eq_some_iff.1 f;obtain⟨lv,a,b,c⟩:=M.vers (h - H.n) x.1 T (qR.2 ⟨x.2,E⟩) ab;refine⟨Ai H.n lv,K _ _ a,b,?_⟩
   have h3:(Ir n os).get (h - H.n)=some x.2:=gF.2 ⟨x.1,E⟩;rw[c]at h3;have h4:=Option.some.inj h3;exact gF.2 ⟨_,by rw[S,<-h4];rfl⟩
end
theorem Wk {a b:Nat×Nat} (h:PM a b=true):a=b:=by
 obtain⟨f,d⟩:=a;obtain⟨g,e⟩:=b;unfold PM at h;cases c:Nat.beq d e with
 |false=>simp[c]at h
 |true=>
  simp only[c,cond_true]at h;rw[Nat.eq_of_beq_eq_true h,Nat.eq_of_beq_eq_true c]
theorem Rf {c:dG} {n l:Nat} {x:ByteArray} (a:n=lD (bH x)) (b:l=(bH x).length):Rl c (.str n l) (.string x):=by
 rw[a,b];exact .str x
def isS (a:List GV) (p:Nat×Nat):Bool:=List.casesOn (motive:=λ_=>Bool) a false λu r=>List.casesOn (motive:=λ_=>Bool) r (Option.casesOn (motive:=λ_=>Bool) (GV.asStr u) false λs=>PM s p) λ_ _=>false
theorem WP {b:List GV} {p:Nat×Nat} (h:isS b p=true):b=[.str p.1 p.2]:=by
 cases b with
 |nil=>cases h
 | cons u r =>
  cases r with
  |cons _ _=>cases h
  | nil =>
   cases a:GV.asStr u with
   |none=>simp[isS,a]at h
   |some s=>
    have:PM s p=true:=by simpa [isS,a]using h
    rw[oQ a,Wk this]
noncomputable section
def Xw (H:GH) (a:List Nat):Option OL:=List.rec (motive:=λ_=>Option OL) (some []) (λh _ b=>ob (H.t.get h) λp=>ob b λr=>some ((h,p.1,p.2)::r)) a
theorem GW {H:GH}:∀{c:List Nat} {b:OL},Xw H c=some b->∀x∈b,H.t.get x.1=some x.2
 | [],b,h,x,a=>by cases h;cases a
 |h0::c,b,h,x,a=>by
  obtain⟨p,d,h⟩:=aB.1 (show ob (H.t.get h0) (λp=>ob (Xw H c) λr=>some ((h0,p.1,p.2)::r))=some b from h);obtain⟨r,e,h⟩:=aB.1 h;cases h;rcases List.mem_cons.1 a with rfl|a
  ·exact d
  ·exact GW e x a
def SC (T:Ft) (G:GP) (a f:Nat) (d:List GV) (b:List Nat):Option (GV×Nat×OL):=ob (IY T G a f d H0) λr=>ob (Xw r.2 b) λc=>some (r.1,r.2.n,c)
def shK {R:Type} (k:Nat) (v:GV) (f:GV->R):R:=GV.casesOn (motive_1:=λ_=>R) v (λa b=>f (.int a b)) (λb=>f (.bool b)) (λa b=>f (.str a b)) (λh o=>sn (Nat.add k h) λh=>f (.ptr h o)) (f .pnil) (λh o l s=>sn (Nat.add k h) λh=>f (.sl h o l s)) (f .snil) (λh=>sn (Nat.add k h) λh=>f (.map h)) (λa b c=>f (FZ k (.fn a b c))) (f .fnil) (f .inil) (λd=>f (FZ k (.agg d))) (λe=>f (FZ k (.tup e))) (f .un) (f .bad) (λh=>sn (Nat.add k h) λh=>f (.opn h))
theorem XL {R:Type} (k:Nat) (v:GV) (f:GV->R):shK k v f=f (FZ k v):=by
 cases v<;>simp[shK,uU,FZ]
def adA {R:Type} (k:Nat) (l:List GV):(List GV->R)->R:=List.rec (motive:=λ_=>(List GV->R)->R) (λf=>f []) (λx _ a f=>shK k x λy=>a λr=>f (y::r)) l
theorem SZ {R:Type} (k:Nat):∀(l:List GV) (f:List GV->R),adA k l f=f (UF k l)
 | [],f=>rfl
 |x::l,f=>by
  show shK k x (λy=>adA k l λr=>f (y::r))=_;rw[XL,SZ k l];rfl
def adB {R:Type} (k:Nat) (o:GO) (f:GO->R):R:=GO.casesOn (motive:=λ_=>R) o (λa=>adA k a λa=>f (.cells a)) (λb=>f (Yu k (.mp b)))
theorem aaG {R:Type} (k:Nat) (o:GO) (f:GO->R):adB k o f=f (Yu k o):=by
 cases o with
 |cells a=>exact SZ k a _
 |mp b=>rfl
def ado {R:Type} (k:Nat) (t:Tr (Nat×GO)) (b:OL):(Tr (Nat×GO)->R)->R:=List.rec (motive:=λ_=>(Tr (Nat×GO)->R)->R) (λf=>f t) (λx _ a f=>a λt=>sn (Nat.add k x.2.1) λv=>sn (Nat.add k x.1) λh=>adB k x.2.2 λo=>t.setK (some (v,o)) h f) b
theorem SN {R:Type} (k:Nat) (t:Tr (Nat×GO)):∀(a:OL) (f:Tr (Nat×GO)->R),ado k t a f=f (OG k t a)
 | [],f=>rfl
 |x::a,f=>by
  show ado k t a (λt=>sn (Nat.add k x.2.1) λv=>sn (Nat.add k x.1) λh=>adB k x.2.2 λo=>t.setK (some (v,o)) h f)=_;rw[SN k t a];simp only[uU,aaG,BB];rfl
def On (g:GV) (n:Nat) (a:OL) (H:GH):Option (GV×GH):=sn H.n λk=>shK k g λg=>ado k H.t a λt=>sn (Nat.add k n) λm=>some (g,⟨m,t⟩)
theorem Xh (g:GV) (n:Nat) (a:OL) (H:GH):On g n a H=some (FZ H.n g,H.load n a):=by
 unfold On;simp only[uU,XL,SN];rfl
theorem SD {P:Program} {T:Ft} {G:GP} {gs gs2:xR} (j:gs2.obs=gs.obs) (d:gs2.env=[]) (M:IR T G.tab) (L:∀m:d_ gs2,Tn P G T.fns m) {a f n:Nat} {y:List GV} {z:List Value} {O:List Nat} {g:GV} {c:OL} (i:SC T G a f y O=some (g,n,c)) (C:aT P f)
  {m:d_ gs} {w:World} {F:dG} {H o:GH} {B:GV} (Q:n_ (λ_=>none) y z) (h:On g n c H=some (B,o)) (R:eQ m F H w):jX P m F f z w B o:=by
 rw[Xh]at h;cases h;obtain⟨r,D,i⟩:=aB.1 (show ob (IY T G a f y H0) _=some (g,n,c)from i);obtain⟨S,s,i⟩:=aB.1 i;cases i;rw[Fx M]at D;have b:Hm gs2 w λ_=>False:=λp t=>⟨(R.glo p (j▸t)).1,id⟩
 rcases Fw L (H':=r.2) (g:=r.1) D (eQ.start (d_.of w b) d) Q with⟨v,E,l,k,_⟩|⟨_,N⟩
 ·have:=C z.toArray w;rw[show(d_.of w b).w=w from rfl,this]at k;cases k
 ·refine .inr ⟨C _ w,N.mono ?_⟩;rintro e E ⟨v,A,rfl,_,I,u⟩;have J:eQ (d_.of w b) A (Ir r.2.n c) E:=I.sub Z λh p t=>by
   have:UD c h=some p:=(Dh c h).symm.trans t;exact GW s _ (Mw this)
  obtain⟨l,q,K,x⟩:=R.join J;exact⟨v,l,rfl,q,K,x _ _ u⟩
theorem Uh {P:Program} {T:Ft} {G:GP} {gs:xR} (y:IR T G.tab) (x:∀H:d_ gs,Tn P G T.fns H) {a f n:Nat} {m:List GV} {o:List Value} {D:List Nat} {g:GV} {j:OL} (d:SC T G a f m D=some (g,n,j)) (z:aT P f)
  (E:n_ (λ_=>none) m o) (B:gs.env=[]) (b:d_ gs):Calls P f o.toArray b.w λe q=>∃v c,e = .returned v∧eQ b c (Ir n j) q∧Rl c g v:=by
 obtain⟨r,t,d⟩:=aB.1 (show ob (IY T G a f m H0) _=some (g,n,j)from d);obtain⟨F,k,d⟩:=aB.1 d;cases d;rw[Fx y]at t;rcases Fw x (H':=r.2) (g:=r.1) t (eQ.start b B) E with⟨v,q,c,i,_⟩|⟨_,A⟩
 ·have:=z o.toArray b.w;rw[this]at i;cases i
 ·refine A.mono ?_;rintro e q ⟨v,s,rfl,_,u,l⟩;exact⟨v,s,rfl,u.sub Z λh p C=>by
   have:UD j h=some p:=(Dh j h).symm.trans C;exact GW k _ (Mw this),l⟩
end
theorem QT {P:Program} {gs:Nat->xR} {L:List aX} (D:∀w S,(∀h∈L,h.p w S)->∃T,Hm (gs T) w λ_=>False) {f n:Nat} {z:List Value} {g:GV} {y:OL}
  (h:∀T (b:d_ (gs T)),Calls P f z.toArray b.w λe s=>∃v c,e = .returned v∧eQ b c (Ir n y) s∧Rl c g v) {A:Type} {o:A->Value} {LO:A->List aX}
  (d:∀T (b:d_ (gs T)) (B:dG) (w:World) (V:Value),(∀k,b.mine k->b.w.heap.size<=k)->eQ b B (Ir n y) w->Rl B g V->∃x:A,V=o x∧∀q∈LO x,q.p w (λk=>b.w.heap.size<=k)):
  aY P f z.toArray L o (λ_ l=>l) (λx l=>LO x++l):=by
 intro t C H;obtain⟨T,u⟩:=D t C H;refine(h T (.of t u)).mono ?_;rintro e s ⟨v,c,rfl,R,G⟩;obtain⟨x,rfl,F⟩:=d T (.of t u) c s v (λk r=>r.elim id False.elim) R G;refine⟨x,rfl,R.ext,λ_ _=>False,⟨λi m E=>by simp at E,λi k h=>h.elim,λi j k h=>h.elim⟩,λq a=> ?_⟩
 have a:q∈LO x++[]:=a;rw[List.append_nil]at a;exact aX.wide (F q a) (λk r=>⟨.inr (.inl r),λi h=>h.elim⟩)
noncomputable def HL (s:ByteArray):Nat×Nat:=(lD (bH s),(bH s).length)
theorem N_ {a b:ByteArray} (h:HL a=HL b):a=b:=by
 have c:=Wj a b;unfold HL at h;rw[h]at c;have e:PM (lD (bH b),(bH b).length) (lD (bH b),(bH b).length)=true:=by simp[PM]
 rw[e]at c;have d:a.toList=b.toList:=eq_of_beq c.symm;rw[Lib.toList_data,Lib.toList_data]at d;obtain⟨⟨x⟩⟩:=a;obtain⟨⟨y⟩⟩:=b;simp only at d;rw[d]
noncomputable def acG (a:List GV):Option (Nat×Nat):=List.casesOn (motive:=λ_=>Option (Nat×Nat)) a none λc r=>List.casesOn (motive:=λ_=>Option (Nat×Nat)) r c.asStr λ_ _=>none
abbrev ads:eD ByteArray:=⟨1,Nat.one_pos,λ_ _ a x=>a=[.string x],λh=>by simp[h],λh _=>h⟩
theorem gS.str {S:Nat->Prop} {g:dG} {w:World}:gS S g w acG ads HL:=λgs f y a h _=>by
 cases gs with
 |nil=>cases h
 |cons c gs=>
 cases gs with
 |cons _ _=>cases h
 |nil=>
 have h:c.asStr=some y:=h;obtain⟨v,f,rfl,b,a⟩:=a.of_cons;rw[a.of_nil];rw[oQ h]at b;obtain⟨x,rfl,d,e⟩:=b.str_inv;exact⟨x,by unfold HL;rw[<-d,<-e],rfl⟩
theorem aaJ {c:dG} {V:Value} {n l:Nat} {s:ByteArray} (h:Rl c (.str n l) V) (e:HL s=(n,l)):V = .string s:=by
 obtain⟨x,rfl,a,b⟩:=h.str_inv;have:HL x=HL s:=by rw[e];unfold HL;rw[<-a,<-b]
 rw[N_ this]
theorem Ju {c:Type}:∀a b:c,id a=id b->a=b:=λ_ _ h=>h
theorem Dd {c d e i:Type} {f:c->e} {g:d->i} (j:∀a b,f a=f b->a=b) (k:∀a b,g a=g b->a=b):∀a b:c×d,(λz:c×d=>(f z.1,g z.2)) a=(λz:c×d=>(f z.1,g z.2)) b->a=b:=λa b h=>by
 obtain⟨l,m⟩:=a;obtain⟨n,o⟩:=b;simp only[Prod.mk.injEq]at h;rw[j _ _ h.1,k _ _ h.2]
theorem Jy {g i:Type} {f:g->i} (e:∀a b,f a=f b->a=b):∀{c d:List g},c.map f=d.map f->c=d
 | [],[],_=>rfl
 | [],_::_,h=>by simp at h
 |_::_,[],h=>by simp at h
 |a::c,b::d,h=>by
  simp only[List.map_cons,List.cons.injEq]at h;rw[e _ _ h.1,Jy e h.2]
end Go.Gx
section
set_option maxRecDepth 100000
namespace Go.Gx
open Go Go.Sx Go.Proofs Go.Proofs.YtmdlcmbplnhdnaaGreatDoor
def yI (l:pF):List GV:=l.map λn=> .int .i64 (.ofNat n)
abbrev T_:Nat:=62612022078668281795505554093363622559854195865949253215105900396045672359969877880166549174032343132993734957765569202214538907514566311350427701009544032694847337705793280154083690688451269616688782133795410379376928705130345296445151552924450334836917827234573469831105668184247309683323748037249326305257450566500613104582596739355858495108587194514699348039550352061107652063950585699432193800786308390540153052463342825471615451497403378237530695269756800903089344746135921082798862585170912282432061314226997690214573863871773160495090950365393003392302336199511227963345777762340303723847551010267882950244475187531638497589816884840746003832656122559568072415127281877587919955134951848720898362784721630179183632514071187737718801766045181382178059597531935953865739058317213402067112106178269539818406468794623567714368406699984352401615611648009540554670638379077003046691601651659503488023036016650041344236444492625067110609540290467946795853434537583557082408411183186533670519462632865144031819183310381452310956185194634675703732849182713820334837695243446565596654286740386031565011357996399800921820918955437335624617843094112596863701508946442457135114386851122925397296113071978999231011209672540734656076492347048890983156526043032785285927167596865683405763291449118335047510792439178363711784660496025932951555546329846668545661249500619781993860494368395467151808107769959479474456951167188694307489519361853029722953071634727739222067984252267479508130870821814111526873691367656719627636282162632229619012164283959600299915921951610829461135327475232013270964287406921117221047932843602716792612622967992944
def mu0:List GV:=[.str T_ 679]
def mg0:GV:=(.tup [(.sl 2567 0 301 4),(.int .i64 (.ofNat 0)),(.int .i64 (.ofNat 0))])
def mo0:OL:=[(2567,2567,.cells (yI [1,0,7,0,1,8,13,0,3,13,14,0,1,15,18,0,1,19,20,0,3,21,22,0,2,23,24,0,3,25,27,0,1,28,29,0,3,29,30,0,1,31,34,0,1,35,36,0,3,37,38,0,1,39,43,0,3,43,44,0,1,45,48,0,1,49,50,0,3,51,52,0,1,53,57,0,3,57,58,0,1,59,62,0,1,63,64,0,3,65,66,0,1,67,71,0,3,71,72,0,1,73,76,0,1,77,78,0,3,79,80,0,2,81,82,0,3,83,85,0,2,86,87,3,3,87,88,0,1,89,92,0,1,93,94,0,3,95,96,0,1,97,101,0,3,101,102,0,1,103,107,0,1,108,111,0,3,111,112,0,1,113,117,0,3,118,120,0,3,121,122,0,1,122,123,0,3,124,126,0,2,127,128,0,3,129,131,0,1,132,133,0,3,134,136,0,1,137,141,0,3,141,142,0,3,143,145,0,1,146,147,0,3,148,150,0,2,151,152,0,3,152,153,0,1,154,155,0,3,156,158,0,1,159,163,0,3,163,164,0,1,165,169,0,1,170,173,0,3,173,174,0,3,175,176,0,1,176,180,0,3,181,183,0,3,184,185,0,1,185,186,0,3,187,189,0,3,190,191,0,1,191,194,0,3,194,195,0,1,195,196,0,3,196,197,0,1,197,198,0,3,198,199,0,3,200,201,0,1,202,203,0,3,204,205,0,1,206,209,0,3,209,210,0,1,210,211,0,3,211,212,0,1,212,213,0,3,213,214,0,3,215,216,0,2,217,218,1,3,219,220,0,1,221,222,0,3,222,223,0,3,224,226,0,1,227,228,0,3,229,231,0,1,232,237,0,3,237,238,0,1,238,239,0,3,239,240,0,1,240,241,0,3,242,244,0,1,245,248,0,3,248,249,0,1,249,250,0,3,250,251,0,1,251,252,0,3,252,253,0,3,253,254,0,3,254,255,0,3,258,260,0,1,261,262,0,3,263,265,0,3,266,267,0,1,267,270,0,3,270,271,0,1,271,272,0,3,272,273,0,1,273,274,0,3,274,275,0,3,276,277,0,1,278,279,0,3,280,281,0,1,282,285,0,3,285,286,0,1,286,287,0,3,287,288,0,1,288,289,0,3,289,290,0,3,291,292,0,2,293,294,1,3,295,296,0,1,297,298,0,3,298,299,0,3,299,300,0,1,301,302,0,3,303,305,0,1,306,311,0,3,311,312,0,1,312,313,0,3,313,314,0,1,314,315,0,3,316,318,0,1,319,322,0,3,322,323,0,1,323,324,0,3,324,325,0,1,325,326,0,3,326,327,0,3,327,328,0,3,328,329,0,1,330,334,0,1,335,340,0,3,340,341,0,1,342,346,0,3,347,349,0,3,350,351,0,1,351,352,0,3,353,355,0,1,356,357,0,3,358,360,0,1,361,362,0,3,363,365,0,1,366,370,0,3,370,371,0,1,372,373,0,3,374,376,0,3,377,378,0,1,378,379,0,3,379,380,0,1,381,382,0,3,383,385,0,2,386,387,0,3,387,388,0,1,389,390,0,3,391,393,0,1,394,399,0,3,399,400,0,1,401,405,0,1,406,410,0,3,410,411,0,3,412,413,0,1,413,417,0,3,418,420,0,1,421,425,0,3,425,426,0,1,426,427,0,3,428,430,0,1,431,432,0,3,433,435,0,3,436,437,0,1,437,438,0,3,438,439,0,1,439,440,0,3,441,443,0,1,444,445,0,3,446,448,0,1,449,450,0,3,451,453,0,3,454,455,0,1,455,456,0,3,456,457,0,1,457,458,0,3,458,459,0,3,459,460,0,3,461,463,0,1,464,465,0,3,466,468,0,1,469,473,0,3,473,474,0,1,474,475,0,3,476,478,0,1,479,480,0,3,481,483,0,1,484,485,0,3,485,486,0,1,486,487,0,3,487,488,0,3,488,489,0,1,490,491,0,3,492,494,0,1,495,499,0,3,499,500,0,1,500,501,0,3,502,504,0,1,505,506,0,3,507,509,0,1,510,511,0,3,511,512,0,1,512,513,0,3,513,514,0,3,514,515,0,1,516,517,0,3,518,520,0,2,521,522,0,3,522,523,0,1,524,525,0,3,526,528,0,1,529,534,0,3,534,535,0,1,536,540,0,1,541,547,0,3,547,548,0,1,549,550,0,3,551,553,0,1,554,557,0,3,557,558,0,1,558,559,0,3,559,560,0,1,560,561,0,3,562,564,0,1,565,566,0,3,566,567,0,1,567,571,0,3,572,574,0,3,575,576,0,1,576,577,0,3,577,578,0,1,578,579,0,3,580,582,0,1,583,584,0,3,584,585,0,1,585,586,0,3,587,589,0,1,590,591,0,3,591,592,0,3,593,595,0,1,596,597,0,3,598,600,0,1,601,606,0,3,606,607,0,1,608,612,0,1,613,616,0,3,616,617,0,3,618,619,0,1,619,620,0,3,621,623,0,3,624,625,0,1,625,626,0,3,627,629,0,1,630,634,0,3,634,635,0,1,635,636,0,3,636,637,0,1,637,638,0,3,639,641,0,1,642,643,0,3,643,644,0,1,644,648,0,3,649,651,0,1,652,653,0,3,653,654,0,1,654,655,0,3,656,658,0,3,659,660,0,1,660,661,0,3,661,662,0,1,662,663,0,3,663,664,0,3,665,667,0,1,668,669,0,3,670,672,0,1,673,677,0,3,677,678,0]))]
set_option maxHeartbeats 4000000 in
theorem me0:SC Hb gp 4000 71 mu0 [2567]=some (mg0,2568,mo0):=by kernel_rfl
noncomputable def Jr (f:Nat) (a:List GV) (H:GH):Option (GV×GH):=bif Nat.beq f 71 then(bif isS a (T_,679)then On mg0 2568 mo0 H else Wy f a H)else Wy f a H
noncomputable def afo:GP:=⟨uW,gp.cat,Jr,gp.exn⟩
theorem GJ {T:Nat} {k:d_ (gl T)} {w:World} {e:dG} {H i:GH} {g:GV} {d:List GV} {j:fM} {f:Nat} (h:Jr f d H=some (g,i)) (R:eQ k e H w) (a:n_ e d j):jX Tryz.prog k e f j w g i:=by
 unfold Jr at h;cases b:Nat.beq f 71 with
 |false=>rw[b]at h;exact Mo h R a
 | true =>
  rw[b]at h;cases c:isS d (T_,679)with
  |false=>rw[c]at h;exact Mo h R a
  |true=>
   rw[c]at h;rw[Nat.eq_of_beq_eq_true b];rw[WP c]at a;obtain⟨V,rfl,n⟩:=a.one;obtain⟨x,rfl,l,m⟩:=n.str_inv;exact SD (gs:=gl T) (gs2:=gl T) Z Z FV WA me0 Tryz.call71 (n_.cons (Rf l m) .nil) h R
theorem abg {T:Nat} (a:d_ (gl T)):Tn Tryz.prog afo Hb.fns a:=⟨(WA a).tab,(WA a).mixed,(WA a).fns,λh d w c R b=>GJ h R b,(WA a).exn,(WA a).cat⟩
def mu1:List GV:=[.str T_ 679]
def mg1:GV:=(.agg [(.str 499918267762 5),(.sl 2815 0 6 6),(.sl 4970 0 6 3)])
def Xj:OL:=[(2815,2815,.cells [(.str 100 1),(.int .i64 (.ofNat 1)),(.int .i64 (.ofNat 0)),(.int .i64 (.ofNat 0)),(.int .i64 (.ofNat 1)),(.int .i64 (.ofNat 0)),(.str 112 1),(.int .i64 (.ofNat 3)),(.int .i64 (.ofNat 0)),(.int .i64 (.ofNat 0)),(.int .i64 (.ofNat 0)),(.int .i64 (.ofNat 0)),(.str 115 1),(.int .i64 (.ofNat 2)),(.int .i64 (.ofNat 0)),(.int .i64 (.ofNat 0)),(.int .i64 (.ofNat 0)),(.int .i64 (.ofNat 0)),(.str 98 1),(.int .i64 (.ofNat 2)),(.int .i64 (.ofNat 0)),(.int .i64 (.ofNat 0)),(.int .i64 (.ofNat 0)),(.int .i64 (.ofNat 0)),(.str 121 1),(.int .i64 (.ofNat 1)),(.int .i64 (.ofNat 0)),(.int .i64 (.ofNat 3)),(.int .i64 (.ofNat 0)),(.int .i64 (.ofNat 0)),(.str 114 1),(.int .i64 (.ofNat 2)),(.int .i64 (.ofNat 0)),(.int .i64 (.ofNat 0)),(.int .i64 (.ofNat 0)),(.int .i64 (.ofNat 0))]),
 (2939,2939,.cells (yI [41,0,10,0,42,0,36,0,5,0,1,0,36,0,5,1,4,0])),
 (2965,2965,.cells [(.int .i64 (.ofNat 1)),(.int .i64 (.ofNat 0))]),
 (2998,2998,.cells [(.int .i64 (.ofNat 4)),(.int .i64 (.ofNat 0))]),
 (3006,3006,.cells [(.int .i64 (.ofNat 0)),(.sl 2965 0 1 2),(.int .i64 (.ofNat 1)),(.sl 2998 0 1 2)]),
 (3394,3394,.cells (yI [41,0,19,0,10,0,42,0,36,0,5,0,43,0,37,0,24,0,12,0,6,0,33,0,24,0,12,0,1,1,6,0,36,0,5,1,23,0,35,0,12,0,24,0,12,0])),
 (3575,3575,.cells (yI [43,0,37,0,24,0,12,0,6,0,33,0,24,0,12,0,1,1,6,0])),
 (3701,3701,.cells (yI [23,0,35,0,12,0,24,0,12,0])),
 (3709,3709,.cells [(.int .i64 (.ofNat 0)),(.sl 3575 0 10 2),(.int .i64 (.ofNat 1)),(.sl 3701 0 5 2)]),
 (3798,3798,.cells (yI [41,0,41,0,10,0,19,0,5,2,5,5])),
 (3825,3825,.cells [(.int .i64 (.ofNat 2)),(.int .i64 (.ofNat 0))]),
 (3867,3867,.cells (yI [19,0,5,3])),
 (3899,3899,.cells [(.int .i64 (.ofNat 1)),(.int .i64 (.ofNat 0))]),
 (3932,3932,.cells [(.int .i64 (.ofNat 3)),(.int .i64 (.ofNat 0))]),
 (3940,3940,.cells [(.int .i64 (.ofNat 2)),(.sl 3825 0 1 2),(.int .i64 (.ofNat 3)),(.sl 3867 0 2 2),(.int .i64 (.ofNat 4)),(.sl 3899 0 1 2),(.int .i64 (.ofNat 5)),(.sl 3932 0 1 2)]),
 (4174,4174,.cells (yI [41,0,19,0,10,0,21,0,41,0,35,0,11,0,5,1,42,0,36,0,12,3,5,3,41,0,5,2,19,0,12,2])),
 (4274,4274,.cells (yI [21,0,41,0,35,0,11,0,5,1,12,2])),
 (4380,4380,.cells (yI [21,0,41,0,35,0,11,0,5,1,12,3])),
 (4412,4412,.cells [(.int .i64 (.ofNat 1)),(.int .i64 (.ofNat 0))]),
 (4445,4445,.cells [(.int .i64 (.ofNat 3)),(.int .i64 (.ofNat 0))]),
 (4453,4453,.cells [(.int .i64 (.ofNat 2)),(.sl 4274 0 6 2),(.int .i64 (.ofNat 3)),(.sl 4380 0 6 2),(.int .i64 (.ofNat 4)),(.sl 4412 0 1 2),(.int .i64 (.ofNat 5)),(.sl 4445 0 1 2)]),
 (4664,4664,.cells (yI [41,0,5,2,20,0,42,0,36,0,12,1,17,0,41,0,19,0,12,2,35,0,12,3,5,3])),
 (4691,4691,.cells [(.int .i64 (.ofNat 3)),(.int .i64 (.ofNat 0))]),
 (4699,4699,.cells [(.int .i64 (.ofNat 2)),(.sl 4691 0 1 2)]),
 (4927,4927,.cells (yI [41,0,41,0,19,0,5,2,19,0,5,5,21,0,41,0,41,0,35,0,12,1,17,0,12,5,19,0,12,2])),
 (4954,4954,.cells [(.int .i64 (.ofNat 2)),(.int .i64 (.ofNat 0))]),
 (4962,4962,.cells [(.int .i64 (.ofNat 5)),(.sl 4954 0 1 2)]),
 (4970,4970,.cells [(.str 7368564 3),(.sl 2939 0 9 2),(.sl 3006 0 2 2),(.str 7827308 3),(.sl 3394 0 23 2),(.sl 3709 0 2 2),(.str 474214786402 5),(.sl 3798 0 6 2),(.sl 3940 0 4 2),(.str 1701536116 4),(.sl 4174 0 16 2),(.sl 4453 0 4 2),(.str 114844899371366 6),(.sl 4664 0 13 2),(.sl 4699 0 1 2),(.str 7041889 3),(.sl 4927 0 15 2),(.sl 4962 0 1 2)])]
set_option maxHeartbeats 4000000 in
theorem me1:SC Hb afo 4000 23 mu1 [2815,2939,2965,2998,3006,3394,3575,3701,3709,3798,3825,3867,3899,3932,3940,4174,4274,4380,4412,4445,4453,4664,4691,4699,4927,4954,4962,4970]=some (mg1,7588,Xj):=by kernel_rfl
noncomputable def QD (f:Nat) (a:List GV) (H:GH):Option (GV×GH):=bif Nat.beq f 23 then(bif isS a (T_,679)then On mg1 7588 Xj H else Jr f a H)else Jr f a H
noncomputable def afp:GP:=⟨uW,gp.cat,QD,gp.exn⟩
theorem TY {T:Nat} {k:d_ (gl T)} {w:World} {e:dG} {H i:GH} {g:GV} {d:List GV} {j:fM} {f:Nat} (h:QD f d H=some (g,i)) (R:eQ k e H w) (a:n_ e d j):jX Tryz.prog k e f j w g i:=by
 unfold QD at h;cases b:Nat.beq f 23 with
 |false=>rw[b]at h;exact GJ h R a
 | true =>
  rw[b]at h;cases c:isS d (T_,679)with
  |false=>rw[c]at h;exact GJ h R a
  |true=>
   rw[c]at h;rw[Nat.eq_of_beq_eq_true b];rw[WP c]at a;obtain⟨V,rfl,n⟩:=a.one;obtain⟨x,rfl,l,m⟩:=n.str_inv;exact SD (gs:=gl T) (gs2:=gl T) Z Z FV abg me1 Tryz.call23 (n_.cons (Rf l m) .nil) h R
theorem afn {T:Nat} (a:d_ (gl T)):Tn Tryz.prog afp Hb.fns a:=⟨(WA a).tab,(WA a).mixed,(WA a).fns,λh d w c R b=>TY h R b,(WA a).exn,(WA a).cat⟩
noncomputable abbrev gp2:GP:=afp
theorem aiv {T:Nat} (a:d_ (gl T)):Tn Tryz.prog gp2 Hb.fns a:=afn a
end Go.Gx
end
namespace Go.Gx
open Go Go.Sx Go.RowKit
structure Hd (n:Nat) (os:OL) (ρ:dG) (w:World) (S:Nat->Prop):Prop where
 live:∀h o,(Ir n os).get h=some o->∃l,ρ h=some l∧S l.b∧wH ρ w l o
 inj:∀h h' o o' l l',(Ir n os).get h=some o->(Ir n os).get h'=some o'->ρ h=some l->ρ h'=some l'->l.b=l'.b->h=h'
 fresh:∀h,n<=h->ρ h=none
 dense:∀h,h<n->∃l,ρ h=some l
 vers:∀h v l,(Ir n os).ver h=some v->ρ h=some l->∃lv,ρ v=some lv∧w.heap[l.b]? = some lv.x∧(Ir n os).get h=some lv.o
theorem Hd.mono {n:Nat} {p:OL} {f:dG} {w w':World} {S g:Nat->Prop} (H:Hd n p f w S) (h:∀k,S k->k<w.heap.size->g k∧w'.heap[k]? = w.heap[k]?):Hd n p f w' g:=by
 refine⟨λk o s=> ?_,H.inj,H.fresh,H.dense,λk v l m j=> ?_⟩
 ·obtain⟨l,a,b,c⟩:=H.live k o s;obtain⟨d,e⟩:=h _ b c.lt;exact⟨l,a,d,c.move (dG.le_refl f) e⟩
 ·obtain⟨u,a,b,c⟩:=H.vers k v l m j;obtain⟨o,t⟩:=qR.1 m;obtain⟨x,i,q,r⟩:=H.live k o (gF.2 ⟨v,t⟩);rw[j]at i;cases i;exact⟨u,a,by rw[(h _ q r.lt).2];exact b,c⟩
theorem eQ.hd {gs:xR} {b:d_ gs} {n:Nat} {d:OL} {ρ:dG} {w:World} {S:Nat->Prop} (R:eQ b ρ (Ir n d) w) (e:∀k,b.mine k->S k):Hd n d ρ w S:=
 ⟨λh o f=>let ⟨l,a,b,c⟩:=R.live h o f;⟨l,a,e _ b,c⟩,R.inj,R.fresh,R.dense,R.vers⟩
def UL (n:Nat) (b:OL) (g:GV) (V:Value):aX where
 p w S:=∃a,Hd n b a w S∧Rl a g V
 mono:=fun⟨a,h,r⟩ k=>⟨a,h.mono k,r⟩
def Hd.O (n:Nat) (a:OL) (c:dG) (k:Nat):Prop:=∃h o l,(Ir n a).get h=some o∧c h=some l∧l.b=k
def Hd.base (n:Nat) (os:OL) (ρ:dG) (w:World):d_ noG:=⟨w,Hd.O n os ρ,λ_ h=>absurd h List.not_mem_nil⟩
theorem Hd.rel {n:Nat} {b:OL} {ρ:dG} {w:World} {S:Nat->Prop} (H:Hd n b ρ w S):eQ (Hd.base n b ρ w) ρ (Ir n b) w:=
 ⟨Bh.refl w,λh o d=>let ⟨l,a,_,c⟩:=H.live h o d;⟨l,a,.inr ⟨h,o,l,d,a,rfl⟩,c⟩,H.inj,H.fresh,H.dense,H.vers,λi v e=>by simp[Hd.base,noG]at e⟩
noncomputable def Ey (H:GH) (b:OL):Bool:=List.rec (motive:=λ_=>Bool) true (λx _ a=>Option.casesOn (motive:=λ_=>Bool) (H.ver x.1) false λv=>bif Nat.beq v x.2.1 then a else false) b
theorem OX {H:GH}:∀{a:OL},Ey H a=true->∀x∈a,H.ver x.1=some x.2.1
 | [],_,x,b=>by cases b
 | y :: a, h, x, b => by
  have h:Option.casesOn (motive:=λ_=>Bool) (H.ver y.1) false (λv=>bif Nat.beq v y.2.1 then Ey H a else false)=true:=h;cases c:H.ver y.1 with
  |none=>rw[c]at h;cases h
  | some v =>
   rw[c]at h;obtain⟨d,f⟩:=bL.1 (show(bif Nat.beq v y.2.1 then(some (Ey H a))else none)=some true by
    have h:(bif Nat.beq v y.2.1 then Ey H a else false)=true:=h;cases e:Nat.beq v y.2.1<;>rw[e]at h<;>first|cases h|(show some (Ey H a)=some true;rw[show Ey H a=true from h]))
   rcases List.mem_cons.1 b with rfl|b
   ·rw[c,Nat.eq_of_beq_eq_true d]
   ·exact OX (Option.some.inj f) x b
noncomputable def okV (a:OL) (r:OR):Bool:=Option.casesOn (motive:=λ_=>Bool) r false λr=>Option.casesOn (motive:=λ_=>Bool) r.1.asB false λb=>bif b then Ey r.2 a else false
theorem Xr {d:OL} {r:OR} (h:okV d r=true):∃a,r=some (.bool true,a)∧Ey a d=true:=by
 cases r with
 |none=>cases h
 | some r =>
  obtain⟨g,a⟩:=r;have h:Option.casesOn (motive:=λ_=>Bool) g.asB false (λb=>bif b then Ey a d else false)=true:=h;cases c:g.asB with
  |none=>rw[c]at h;cases h
  |some b=>
   rw[c]at h;cases b with
   |false=>cases h
   |true=>exact⟨a,by rw[AU c],h⟩
theorem Ub {P:Program} {G:GP} {x:FT} (F:∀T:d_ noG,Tn P G x T) {fuel f n:Nat} {d:OL} {g:GV} {V:Value} (H:aT P f) (h:∃r,RY G x fuel f [g] (Ir n d)=some (.bool true,r)∧Ey r d=true) {w:World} {S:Nat->Prop} (Q:(UL n d g V).p w S):
  Calls P f #[V] w λe u=>e = .returned (.bool true)∧LD w u:=by
 obtain⟨U,y,M⟩:=Q;obtain⟨r,D,E⟩:=h;rcases Fw F D y.rel (.cons M .nil)with⟨v,u,W,m,_⟩|⟨_,I⟩
 ·have:=H #[V] w;rw[this]at m;cases m
 ·refine I.mono ?_;rintro e u ⟨v,X,rfl,j,c,N⟩;refine⟨by rw[N.bool_inv],c.ext.os,c.ext.tape,c.ext.output,c.ext.size,λk K=> ?_⟩
  by_cases A:Hd.O n d U k
  ·obtain⟨i,o,l,J,z,rfl⟩:=A;obtain⟨t,q⟩:=gF.1 J;have L:(i,t,o)∈d:=Mw ((Dh d i).symm.trans q);obtain⟨R,a,b,_⟩:=y.vers i t l (qR.2 ⟨o,q⟩) z;obtain⟨s,B,C,_⟩:=c.vers i t l (OX E _ L) (j _ _ z);have:R=s:=by have:=j _ _ a;rw[B]at this;exact(Option.some.inj this).symm
   subst this;exact C.trans b.symm
  ·exact c.ext.block k K A
end Go.Gx
namespace Go.Proofs.YtmdlcmbplnhdnaaGreatDoor
open Go Go.Sx Go.Gx
set_option maxRecDepth 100000
abbrev wJ:=ByteArray×(Value×eW)×(Value×List (Int×(Value×eW)))
def zB (z:wJ):eW×List (Int×eW):=(z.2.1.2,z.2.2.2.map λs=>(s.1,s.2.2))
def uH:ByteArray:=(ByteArray.mk #[112,114,111,103,114,97,109,32,114,101,115,101,116,59,10,118,97,114,32,100,32,58,32,48,32,46,46,32,110,59,10,118,97,114,32,112,32,58,32,112,111,114,116,59,10,118,97,114,32,115,32,58,32,98,111,111,108,59,10,118,97,114,32,98,32,58,32,98,111,111,108,59,10,118,97,114,32,121,32,58,32,48,32,46,46,32,51,59,10,118,97,114,32,114,32,58,32,98,111,111,108,59,10,114,117,108,101,32,116,111,112,58,32,114,111,111,116,32,38,38,32,40,100,32,33,61,32,48,32,124,124,32,112,32,33,61,32,110,111,110,101,41,32,45,62,32,100,32,58,61,32,48,44,32,112,32,58,61,32,110,111,110,101,59,10,114,117,108,101,32,108,111,119,58,32,33,114,111,111,116,32,38,38,32,40,100,32,33,61,32,40,109,105,110,40,113,46,100,41,32,60,32,110,32,63,32,109,105,110,40,113,46,100,41,32,43,32,49,32,58,32,110,41,32,124,124,32,112,32,33,61,32,102,105,114,115,116,40,113,46,100,32,61,61,32,109,105,110,40,113,46,100,41,41,41,10,32,32,45,62,32,100,32,58,61,32,40,109,105,110,40,113,46,100,41,32,60,32,110,32,63,32,109,105,110,40,113,46,100,41,32,43,32,49,32,58,32,110,41,44,32,112,32,58,61,32,102,105,114,115,116,40,113,46,100,32,61,61,32,109,105,110,40,113,46,100,41,41,59,10,114,117,108,101,32,98,101,103,105,110,58,32,114,111,111,116,32,38,38,32,33,115,32,38,38,32,114,32,45,62,32,115,32,58,61,32,116,114,117,101,44,32,98,32,58,61,32,33,98,44,32,121,32,58,61,32,48,44,32,114,32,58,61,32,102,97,108,115,101,59,10,114,117,108,101,32,116,97,107,101,58,32,33,114,111,111,116,32,38,38,32,115,111,109,101,40,113,32,61,61,32,112,32,38,38,32,40,113,46,98,32,33,61,32,98,32,124,124,32,115,32,38,38,32,33,113,46,115,41,41,32,45,62,32,115,32,58,61,32,115,111,109,101,40,113,32,61,61,32,112,32,38,38,32,113,46,115,41,44,32,98,32,58,61,32,115,111,109,101,40,113,32,61,61,32,112,32,38,38,32,113,46,98,41,44,32,121,32,58,61,32,48,44,32,114,32,58,61,32,102,97,108,115,101,59,10,114,117,108,101,32,102,105,110,105,115,104,58,32,115,32,38,38,32,97,108,108,40,113,46,112,32,33,61,32,113,46,98,97,99,107,32,124,124,32,33,113,46,115,32,38,38,32,113,46,98,32,61,61,32,98,41,32,45,62,32,115,32,58,61,32,102,97,108,115,101,59,10,114,117,108,101,32,97,115,107,58,32,33,115,32,38,38,32,33,114,32,38,38,32,115,111,109,101,40,113,46,112,32,61,61,32,113,46,98,97,99,107,32,38,38,32,113,46,114,32,38,38,32,33,113,46,115,41,32,45,62,32,114,32,58,61,32,116,114,117,101,59,10])
def G_:HE:=[((ByteArray.mk #[100]),(1:Int),(0:Int),(0:Int),(1:Int),(0:Int)),((ByteArray.mk #[112]),(3:Int),(0:Int),(0:Int),(0:Int),(0:Int)),((ByteArray.mk #[115]),(2:Int),(0:Int),(0:Int),(0:Int),(0:Int)),((ByteArray.mk #[98]),(2:Int),(0:Int),(0:Int),(0:Int),(0:Int)),((ByteArray.mk #[121]),(1:Int),(0:Int),(3:Int),(0:Int),(0:Int)),((ByteArray.mk #[114]),(2:Int),(0:Int),(0:Int),(0:Int),(0:Int))]
def Ca:Kb:=[([(41,0),(10,0),(42,0),(36,0),(5,0),(1,0),(36,0),(5,1),(4,0)],[(0,[(1,0)]),(1,[(4,0)])]),([(41,0),(19,0),(10,0),(42,0),(36,0),(5,0),(43,0),(37,0),(24,0),(12,0),(6,0),(33,0),(24,0),(12,0),(1,1),(6,0),(36,0),(5,1),(23,0),(35,0),(12,0),(24,0),(12,0)],[(0,[(43,0),(37,0),(24,0),(12,0),(6,0),(33,0),(24,0),(12,0),(1,1),(6,0)]),(1,[(23,0),(35,0),(12,0),(24,0),(12,0)])]),([(41,0),(41,0),(10,0),(19,0),(5,2),(5,5)],[(2,[(2,0)]),(3,[(19,0),(5,3)]),(4,[(1,0)]),(5,[(3,0)])]),([(41,0),(19,0),(10,0),(21,0),(41,0),(35,0),(11,0),(5,1),(42,0),(36,0),(12,3),(5,3),(41,0),(5,2),(19,0),(12,2)],[(2,[(21,0),(41,0),(35,0),(11,0),(5,1),(12,2)]),(3,[(21,0),(41,0),(35,0),(11,0),(5,1),(12,3)]),(4,[(1,0)]),(5,[(3,0)])]),([(41,0),(5,2),(20,0),(42,0),(36,0),(12,1),(17,0),(41,0),(19,0),(12,2),(35,0),(12,3),(5,3)],[(2,[(3,0)])]),([(41,0),(41,0),(19,0),(5,2),(19,0),(5,5),(21,0),(41,0),(41,0),(35,0),(12,1),(17,0),(12,5),(19,0),(12,2)],[(5,[(2,0)])])]
def abm:List ((Nat×Nat)×eW×List (Int×eW)):=[((7368564,3),[(41,0),(10,0),(42,0),(36,0),(5,0),(1,0),(36,0),(5,1),(4,0)],[(0,[(1,0)]),(1,[(4,0)])]),((7827308,3),[(41,0),(19,0),(10,0),(42,0),(36,0),(5,0),(43,0),(37,0),(24,0),(12,0),(6,0),(33,0),(24,0),(12,0),(1,1),(6,0),(36,0),(5,1),(23,0),(35,0),(12,0),(24,0),(12,0)],[(0,[(43,0),(37,0),(24,0),(12,0),(6,0),(33,0),(24,0),(12,0),(1,1),(6,0)]),(1,[(23,0),(35,0),(12,0),(24,0),(12,0)])]),((474214786402,5),[(41,0),(41,0),(10,0),(19,0),(5,2),(5,5)],[(2,[(2,0)]),(3,[(19,0),(5,3)]),(4,[(1,0)]),(5,[(3,0)])]),((1701536116,4),[(41,0),(19,0),(10,0),(21,0),(41,0),(35,0),(11,0),(5,1),(42,0),(36,0),(12,3),(5,3),(41,0),(5,2),(19,0),(12,2)],[(2,[(21,0),(41,0),(35,0),(11,0),(5,1),(12,2)]),(3,[(21,0),(41,0),(35,0),(11,0),(5,1),(12,3)]),(4,[(1,0)]),(5,[(3,0)])]),((114844899371366,6),[(41,0),(5,2),(20,0),(42,0),(36,0),(12,1),(17,0),(41,0),(19,0),(12,2),(35,0),(12,3),(5,3)],[(2,[(3,0)])]),((7041889,3),[(41,0),(41,0),(19,0),(5,2),(19,0),(5,5),(21,0),(41,0),(41,0),(35,0),(12,1),(17,0),(12,5),(19,0),(12,2)],[(5,[(2,0)])])]
def PF (V:Value):aX:=⟨λw S=>(UL 7588 Xj mg1 V).p w S,λ{w w' S S'} h k=>by
 rcases h with h
 ·exact((UL 7588 Xj mg1 V).mono h k)⟩
noncomputable def Vr {R:Type} (D:Kb) (k:List wJ->Option R):Option R:=open Classical in if h:∃r,∀z:List wJ,z.map zB=D->k z=some r then some (Classical.choose h)else none
theorem TE {R:Type} {D:Kb} {k:List wJ->Option R} {r:R} (h:Vr D k=some r) (z:List wJ) (a:z.map zB=D):k z=some r:=by
 unfold Vr at h;split at h
 ·rename_i e;rw[<-Option.some.inj h];exact Classical.choose_spec e z a
 cases h
theorem YX {R:Type} {D:Kb} {k:List wJ->Option R} {r:R} (h:∀z:List wJ,z.map zB=D->k z=some r):Vr D k=some r:=by
 have e:∃r,∀z:List wJ,z.map zB=D->k z=some r:=⟨r,h⟩
 unfold Vr;rw[dif_pos e];let z:List wJ:=D.map λx=>(ByteArray.empty,(undef,x.1),(undef,x.2.map λs=>(s.1,(undef,s.2))))
 have c:z.map zB=D:=by
  show(D.map _).map zB=D;rw[List.map_map]
  conv=>rhs;rw[<-List.map_id D]
  refine List.map_congr_left λx _=>?_;obtain⟨a,b⟩:=x;simp[zB,Function.comp_def]
 rw[<-Classical.choose_spec e z c,h z c]
def nF (a:Nat) (b:ByteArray):Option XZ:=if b=uH then some ((ByteArray.mk #[114,101,115,101,116]),G_,Ca)else none
theorem VA:aT Tryz.prog 23:=Tryz.call23
theorem RO:aT Tryz.prog 118:=Tryz.call118
theorem OF:HL uH=(62612022078668281795505554093363622559854195865949253215105900396045672359969877880166549174032343132993734957765569202214538907514566311350427701009544032694847337705793280154083690688451269616688782133795410379376928705130345296445151552924450334836917827234573469831105668184247309683323748037249326305257450566500613104582596739355858495108587194514699348039550352061107652063950585699432193800786308390540153052463342825471615451497403378237530695269756800903089344746135921082798862585170912282432061314226997690214573863871773160495090950365393003392302336199511227963345777762340303723847551010267882950244475187531638497589816884840746003832656122559568072415127281877587919955134951848720898362784721630179183632514071187737718801766045181382178059597531935953865739058317213402067112106178269539818406468794623567714368406699984352401615611648009540554670638379077003046691601651659503488023036016650041344236444492625067110609540290467946795853434537583557082408411183186533670519462632865144031819183310381452310956185194634675703732849182713820334837695243446565596654286740386031565011357996399800921820918955437335624617843094112596863701508946442457135114386851122925397296113071978999231011209672540734656076492347048890983156526043032785285927167596865683405763291449118335047510792439178363711784660496025932951555546329846668545661249500619781993860494368395467151808107769959479474456951167188694307489519361853029722953071634727739222067984252267479508130870821814111526873691367656719627636282162632229619012164283959600299915921951610829461135327475232013270964287406921117221047932843602716792612622967992944,679):=by kernel_rfl
theorem Xx:HL (ByteArray.mk #[114,101,115,101,116])=(499918267762,5):=by kernel_rfl
theorem XA:Mg (Ir 7588 Xj) 6 (dP 1 acG (dP 1 (dI .i64) (dP 1 (dI .i64) (dP 1 (dI .i64) (dP 1 (dI .i64) (dI .i64)))))) (.sl 2815 0 6 6)=some (G_.map λz=>(HL z.1,z.2.1,z.2.2.1,z.2.2.2.1,z.2.2.2.2.1,z.2.2.2.2.2)):=by kernel_rfl
theorem Ur:Mg (Ir 7588 Xj) 3 (dP 1 acG (dP 1 (dS (Ir 7588 Xj) 2 (dP 1 (dI .i64) (dI .i64))) (dS (Ir 7588 Xj) 2 (dP 1 (dI .i64) (dS (Ir 7588 Xj) 2 (dP 1 (dI .i64) (dI .i64))))))) (.sl 4970 0 6 3)=some abm:=by kernel_rfl
theorem aau:abm.map (λy=>(y.2.1,y.2.2))=Ca:=by kernel_rfl
theorem Xy (r:XZ) (h:some ((ByteArray.mk #[114,101,115,101,116]),G_,Ca)=some r):aY Tryz.prog 23 #[vS uH] [Gb 0 (cellsOf Hl wD)] (λx:Value×Value×{z:List wJ // z.map zB=r.2.2}=>Value.agg #[vS r.1,x.1,x.2.1]) (λx l=>l) (λx l=>Sl aQ x.1 r.2.1::Sl aH x.2.1 x.2.2.1::PF (Value.agg #[vS r.1,x.1,x.2.1])::l):=by
 cases h;refine QT (gs:=gl) (LO:=λx:Value×Value×{z:List wJ // z.map zB=Ca}=>[Sl aQ x.1 G_,Sl aH x.2.1 x.2.2.1,PF (Value.agg #[vS (ByteArray.mk #[114,101,115,101,116]),x.1,x.2.1])]) Wz (λT b=>Uh FV abg me1 VA (.cons (Rf (x:=uH) (congrArg Prod.fst OF).symm (congrArg Prod.snd OF).symm) .nil) Z b) ?_;intro T b B w V a R g;have y:=g;obtain⟨f,rfl,c,_⟩:=g.agg_inv;obtain⟨C,f,rfl,m,c⟩:=c.of_cons;obtain⟨j,f,rfl,n,c⟩:=c.of_cons;obtain⟨k,rfl,o⟩:=c.one;obtain rfl:=aaJ m Xx;obtain⟨A,v,s⟩:=BM R a (gS.pair gS.str (gS.pair (gS.int .i64) (gS.pair (gS.int .i64) (gS.pair (gS.int .i64) (gS.pair (gS.int .i64) (gS.int .i64)))))) n XA;have e:A=G_:=Jy (Dd (λ_ _=>N_) (Dd Ju (Dd Ju (Dd Ju (Dd Ju Ju))))) v;subst e;obtain⟨i,u,t⟩:=BM (r:=aH) R a (gS.pair gS.str (gS.pair (gS.sl R a (gS.pair (gS.int .i64) (gS.int .i64))) (gS.sl R a (gS.pair (gS.int .i64) (gS.sl R a (gS.pair (gS.int .i64) (gS.int .i64))))))) o Ur;have d:i.map zB=Ca:=by
  rw[<-aau,<-u,List.map_map];refine List.map_congr_left λx _=>?_;simp[zB,Function.comp_def]
 exact⟨(j,k,⟨i,d⟩),rfl,List.forall_mem_cons.2 ⟨s,List.forall_mem_cons.2 ⟨t,List.forall_mem_cons.2 ⟨(⟨B,eQ.hd R a,y⟩),λq p=>absurd p List.not_mem_nil⟩⟩⟩⟩
theorem Yp:okV Xj (IY Hb gp0 4000 118 [mg1] (Ir 7588 Xj))=true:=by kernel_rfl
theorem HU (a:Nat) {b:ByteArray} (r:XZ) (h:nF a b=some r):aY Tryz.prog 23 #[vS b] [Gb 0 (cellsOf Hl wD)] (λx:Value×Value×{z:List wJ // z.map zB=r.2.2}=>Value.agg #[vS r.1,x.1,x.2.1]) (λx l=>l) (λx l=>Sl aQ x.1 r.2.1::Sl aH x.2.1 x.2.2.1::PF (Value.agg #[vS r.1,x.1,x.2.1])::l):=by
 unfold nF at h;by_cases c:b=uH
 ·subst c;exact Xy r ((if_pos Z).symm.trans h)
 rw[if_neg c]at h;cases h
theorem OE (f:Nat):nF f uH=some ((ByteArray.mk #[114,101,115,101,116]),G_,Ca):=by
 unfold nF;exact if_pos Z
def AZ (fuel:Nat) (a:ByteArray×List (ByteArray×Int×Int×Int×Int×Int)×List (wJ)):Option Bool:=some true
theorem Kt (a:Nat) {b:ByteArray×List (ByteArray×Int×Int×Int×Int×Int)×List (wJ)} (d f:Value) (r:Bool) (h:AZ a b=some r):
  aY Tryz.prog 118 #[Value.agg #[vS b.1,d,f]] [Sl aQ d b.2.1,Sl aH f b.2.2,PF (Value.agg #[vS b.1,d,f])] (λx:Unit=>vB (r)) (λx l=>l) (λ_ l=>l):=by
 cases h;intro w S z;have g:Calls Tryz.prog 118 #[Value.agg #[vS b.1,d,f]] w λe o=>e = .returned (.bool true)∧LD w o:=by
  rcases z _ (List.mem_of_getElem? (i:=2) rfl)with v
  ·refine Ub (fuel:=4000) aiu RO ?_ v;obtain⟨p,n,s⟩:=Xr Yp;rw[Fx (G:=gp0) FV]at n;exact⟨p,n,s⟩
 refine g.mono ?_;rintro e o ⟨rfl,c⟩;exact⟨(),rfl,⟨c.os,c.tape,c.output,c.size,λk t _=>c.block k t⟩,λ_ _=>False,⟨λi m u=>by simp at u,λi k h=>h.elim,λi j k h=>h.elim⟩,λq y=>by simp at y⟩
end Go.Proofs.YtmdlcmbplnhdnaaGreatDoor
namespace Go.Proofs.YtmdlcmbplnhdnaaGreatDoor
open Go Go.Sx
abbrev ago:=DC
abbrev PRG:=ByteArray×(List ago)×(List wJ)
abbrev GRF:=List Int×gE
abbrev SCN:=PRG×GRF×Int×bI
abbrev WLK:=SCN×bI×Int×eW
inductive E where
 |lf (o a:Int)
 |un (o:Int) (x:E)
 |ag (o:Int) (x:E)
 |bi (o:Int) (x y:E)
 |ite (x y z:E)
def E.ts:E->eW
 |lf o a=>[(o,a)]
 |un o x=>(o,0)::x.ts
 |ag o x=>(o,0)::x.ts
 |bi o x y=>(o,0)::(x.ts++y.ts)
 |ite x y z=>(43,0)::(x.ts++(y.ts++z.ts))
def E.depth:E->Nat
 |lf _ _=>1
 |un _ x=>x.depth+1
 |ag _ x=>x.depth+1
 |bi _ x y=>max x.depth y.depth+1
 |ite x y z=>max x.depth (max y.depth z.depth)+1
def E.arOk:E->Bool
 |lf o _=>decide (1<=o)&&decide (o<=17)
 |un o x=>decide (18<=o)&&decide (o<=19)&&x.arOk
 |ag o x=>decide (20<=o)&&decide (o<=29)&&x.arOk
 |bi o x y=>decide (30<=o)&&decide (o<=42)&&x.arOk&&y.arOk
 |ite x y z=>x.arOk&&y.arOk&&z.arOk
theorem RJ {b:Type} [Inhabited b] {T a rest:List b} {x:b} {k:Nat} (c:T=a++x::rest) (d:a.length=k):at' T (k:Int)=x:=by
 subst c;exact TG a rest x k d
theorem dZ {k:Nat} (h:k<1000000):wI .i64 ((k:Int)+1)=((k+1:Nat):Int):=by rw[wr (by omega) (by omega)];rfl
theorem Vt (f:Nat) {o:Int} (a:1<=o) (b:o<=43):vV f o=some (if o<=17 then 0 else if o<=29 then 1 else if o<=42 then 2 else 3):=by
 unfold vV xP;rw[if_neg (by omega)];simp only[decide_eq_true_eq];rw[if_neg (by omega)];split
 ·rfl
 ·split
  ·rfl
  ·split<;>rfl
theorem Wi {F:Nat} {T c rest:eW} {t:fH} {k m a:Nat} {b:Nat} (d:T=c++t::rest) (g:c.length=k) (i:k<1000) (n:m<3000) (e:vV F t.1=some ((a:Nat):Int)) (f:a<=3) (j:m+a≠0):
  bK (lB F T) (b+1) ((k:Int),(m:Int))=if m+a=1 then some (((k+1:Nat):Int))else bK (lB F T) b (((k+1:Nat):Int),((m+a - 1:Nat):Int)):=by
 have l:k<T.length:=by rw[d];simp;omega
 show lB F T ((k:Int),(m:Int)) (bK (lB F T) b)=_;unfold lB;dsimp only;rw[if_pos (by omega),cC (by omega),RJ d g,bF e,if_neg (by omega),wr (x:=((a:Nat):Int) - 1) (by omega) (by omega),wr (by omega) (by omega),dZ (by omega)];by_cases h:m+a=1
 ·rw[if_pos h,if_pos (by omega)]
 ·rw[if_neg h,if_neg (by omega)];have:(m:Int)+((a:Int) - 1)=((m+a - 1:Nat):Int):=by omega
  rw[this]
theorem ZN (F:Nat) (T:eW) (H:T.length<=900):∀(e:E),e.arOk=true->∀(c k m:Nat) (d b:eW),T=d++(e.ts++b)->d.length=k->1<=m->m+2*(e.ts++b).length<=1900->e.ts.length<=c->
  bK (lB F T) c ((k:Int),(m:Int))=if m=1 then some (((k+e.ts.length:Nat):Int))else bK (lB F T) (c - e.ts.length) (((k+e.ts.length:Nat):Int),((m - 1:Nat):Int)):=by
 have r:∀{t:fH} {l b d:eW} {c k m:Nat},T=d++((t::l)++b)->d.length=k->(t::l).length<=c->1<=t.1->t.1<=43->1<=m->m+2*((t::l)++b).length<=1900->∀a:Nat,(if t.1<=17 then 0 else if t.1<=29 then 1 else if t.1<=42 then 2 else 3:Int)=a->a<=3->∃f,c=f+1∧
   bK (lB F T) c ((k:Int),(m:Int))=if m+a=1 then some (((k+1:Nat):Int))else bK (lB F T) f (((k+1:Nat):Int),((m+a - 1:Nat):Int)):=by
  intro t l b d c k m n p q v w i j a I B;have A:=congrArg List.length n;simp only[List.length_append,List.length_cons]at A j q;obtain⟨f,rfl⟩:∃f,c=f+1:=⟨c - 1,by omega⟩
  exact⟨f,rfl,Wi (rest:=l++b) (by simpa using n) p (by omega) (by omega) (by rw[Vt F v w,I]) B (by omega)⟩
 intro e
 induction e with
 |lf o a=>
  intro g c k m d b n p i j q;simp only[E.arOk,Bool.and_eq_true,decide_eq_true_eq]at g;obtain⟨f,rfl,h⟩:=r (t:=(o,a)) (l:=[]) n p q (by dsimp only;omega) (by dsimp only;omega) i j 0 (by rw[if_pos (by dsimp only;omega)];rfl) (by omega);rw[h];rfl
 |un o x C=>
  intro g c k m d b n p i j q;simp only[E.arOk,Bool.and_eq_true,decide_eq_true_eq]at g;obtain⟨f,rfl,h⟩:=r (t:=(o,0)) (l:=x.ts) n p q (by dsimp only;omega) (by dsimp only;omega) i j 1 (by rw[if_neg (by dsimp only;omega),if_pos (by dsimp only;omega)];rfl) (by omega);simp only[E.ts,List.length_cons]at q j ⊢;rw[h,if_neg (by omega)];have:=C g.2 f (k+1) m (d++[(o,0)]) b (by rw[n];simp[E.ts]) (by simp[p]) i (by simp at j ⊢;omega) (by omega);rw[show m+1 - 1=m by omega,this,show k+1+x.ts.length=k+(x.ts.length+1) by omega,show f+1 - (x.ts.length+1)=f - x.ts.length by omega]
 |ag o x C=>
  intro g c k m d b n p i j q;simp only[E.arOk,Bool.and_eq_true,decide_eq_true_eq]at g;obtain⟨f,rfl,h⟩:=r (t:=(o,0)) (l:=x.ts) n p q (by dsimp only;omega) (by dsimp only;omega) i j 1 (by rw[if_neg (by dsimp only;omega),if_pos (by dsimp only;omega)];rfl) (by omega);simp only[E.ts,List.length_cons]at q j ⊢;rw[h,if_neg (by omega)];have:=C g.2 f (k+1) m (d++[(o,0)]) b (by rw[n];simp[E.ts]) (by simp[p]) i (by simp at j ⊢;omega) (by omega);rw[show m+1 - 1=m by omega,this,show k+1+x.ts.length=k+(x.ts.length+1) by omega,show f+1 - (x.ts.length+1)=f - x.ts.length by omega]
 |bi o x y s u=>
  intro g c k m d b n p i j q;simp only[E.arOk,Bool.and_eq_true,decide_eq_true_eq]at g;obtain⟨f,rfl,h⟩:=r (t:=(o,0)) (l:=x.ts++y.ts) n p q (by dsimp only;omega) (by dsimp only;omega) i j 2 (by rw[if_neg (by dsimp only;omega),if_neg (by dsimp only;omega),if_pos (by dsimp only;omega)];rfl) (by omega);simp only[E.ts,List.length_cons,List.length_append]at q j ⊢;rw[h,if_neg (by omega)];have v:=s g.1.2 f (k+1) (m+1) (d++[(o,0)]) (y.ts++b) (by rw[n];simp[E.ts]) (by simp[p]) (by omega) (by simp at j ⊢;omega) (by omega);have w:=u g.2 (f - x.ts.length) (k+1+x.ts.length) m (d++((o,0)::x.ts)) b (by rw[n];simp[E.ts]) (by simp[p];omega) (by omega) (by simp at j ⊢;omega) (by omega);rw[show m+2 - 1=m+1 by omega,v,if_neg (by omega),show m+1 - 1=m by omega,w,show k+1+x.ts.length+y.ts.length=k+(x.ts.length+y.ts.length+1) by omega,show f+1 - (x.ts.length+y.ts.length+1)=f - x.ts.length - y.ts.length by omega]
 |ite x y z s u D=>
  intro g c k m d b n p i j q;simp only[E.arOk,Bool.and_eq_true,decide_eq_true_eq]at g;obtain⟨f,rfl,h⟩:=r (t:=(43,0)) (l:=x.ts++(y.ts++z.ts)) n p q (by decide) (by decide) i j 3 Z (by omega);simp only[E.ts,List.length_cons,List.length_append]at q j ⊢;rw[h,if_neg (by omega)];have v:=s g.1.1 f (k+1) (m+2) (d++[(43,0)]) (y.ts++z.ts++b) (by rw[n];simp[E.ts]) (by simp[p]) (by omega) (by simp at j ⊢;omega) (by omega);have w:=u g.1.2 (f - x.ts.length) (k+1+x.ts.length) (m+1) (d++((43,0)::x.ts)) (z.ts++b) (by rw[n];simp[E.ts]) (by simp[p];omega) (by omega) (by simp at j ⊢;omega) (by omega);have G:=D g.2 (f - x.ts.length - y.ts.length) (k+1+x.ts.length+y.ts.length) m (d++((43,0)::(x.ts++y.ts))) b (by rw[n];simp[E.ts]) (by simp[p];omega) (by omega) (by simp at j ⊢;omega) (by omega);rw[show m+3 - 1=m+2 by omega,v,if_neg (by omega),show m+2 - 1=m+1 by omega,w,if_neg (by omega),show m+1 - 1=m by omega,G,show k+1+x.ts.length+y.ts.length+z.ts.length=k+(x.ts.length+(y.ts.length+z.ts.length)+1) by omega,show f+1 - (x.ts.length+(y.ts.length+z.ts.length)+1)=f - x.ts.length - y.ts.length - z.ts.length by omega]
theorem acL (F:Nat) (e:E) (d:e.arOk=true) {T b a:eW} {k:Nat} (f:T=b++(e.ts++a)) (i:b.length=k) (j:T.length<=800) (h:e.ts.length<=F):BY F T (k:Int)=some (((k+e.ts.length:Nat):Int)):=by
 have g:1<=e.ts.length:=by cases e<;>simp[E.ts]
 have c:=congrArg List.length f;simp only[List.length_append]at c;unfold BY AP;rw[if_neg (by omega)];simp only[decide_eq_true_eq];rw[if_neg (by omega)];have:=ZN F T (by omega) e d F k 1 b a f i (by omega) (by simp;omega) h;rw[if_pos Z]at this;exact this
def zO (b:Bool):Int:=if b then 1 else 0
theorem tE (f:Nat) (b:Bool):iJ f b=some (zO b):=by cases b<;>rfl
theorem Ee {a:Type} [Inhabited a] {l:List a} {k:Nat} (h:k<l.length):l.take (k+1)=l.take k++[at' l (k:Int)]:=by
 rw[List.take_add_one,List.getElem?_eq_getElem h,fT,List.getD_eq_getElem?_getD,List.getElem?_eq_getElem h];rfl
theorem kV {a:Type} [Inhabited a] {l:List a} {k:Nat} (h:k<l.length):at' l (k:Int)=l[k]:=by
 rw[fT,List.getD_eq_getElem?_getD,List.getElem?_eq_getElem h];rfl
theorem FI {p:Nat->Prop}:∀(n:Nat),p n->∃m,m<=n∧p m∧∀j,j<m->¬p j:=by
 intro n
 induction n using Nat.strongRecOn with
 | _ n ih =>
  intro h;by_cases d:∃m,m<n∧p m
  ·obtain⟨m,e,f⟩:=d;obtain⟨k,a,b,c⟩:=ih m e f;exact⟨k,by omega,b,c⟩
  ·exact⟨n,Nat.le_refl n,h,λj g i=>d ⟨j,g,i⟩⟩
theorem SG {g:Type} [DecidableEq g]:∀(c b:List g),c.Nodup->(∀x∈c,x∈b)->c.length<=b.length
 | [],b,_,_=>Nat.zero_le _
 |a::c,b,h,hs=>by
  have d:=hs a List.mem_cons_self;have h:=List.nodup_cons.1 h;have:=SG c (b.erase a) h.2 (λx f=>(List.mem_erase_of_ne (fun(e:x=a)=>h.1 (by rw[<-e];exact f))).2 (hs x (List.mem_cons_of_mem _ f)));rw[List.length_erase_of_mem d]at this;have i:0<b.length:=List.length_pos_of_mem d;simp only[List.length_cons];omega
def nz (x:Int):Bool:=decide (x≠0)
theorem VX (f:Nat) (l:aP) (h:l.length<f) (e:l.length<=1000):pT f l=some ((l.countP nz:Nat):Int):=by
 unfold pT;have:=eO (step:=qI l) (K:=some ((l.countP nz:Nat):Int)) l.length (λk=>(((l.take k).countP nz:Nat),(k:Int))) (λk b c=>by
  have d:(l.take k).countP nz<=k:=Nat.le_trans List.countP_le_length (by simp;omega);unfold qI sY;dsimp only;rw[if_pos (by omega),cC (by omega),Ee c,List.countP_append,dZ (by omega),dZ (by omega)];by_cases a:at' l (k:Int)=0
  ·rw[if_neg (by simpa using a)];simp[nz,a]
  ·rw[if_pos a];simp[nz,a]) (λb=>by
  unfold qI xD;dsimp only;rw[if_neg (by omega),List.take_length]) f h
 exact this
theorem Hr (f:Nat) (l:aP) (x:Int) (h:l.length<f) (t:l.length<=1000):qO f l x=some (decide (x∈l)):=by
 have q:∃i:Int,pA f l x=some i∧(0<=i↔x∈l):=by
  by_cases b:x∈l
  ·obtain⟨i,r,o⟩:=List.mem_iff_getElem.1 b;have a:∃i,i<l.length∧at' l (i:Int)=x∧∀j,j<i->at' l (j:Int)≠x:=by
    obtain⟨m,d,c,s⟩:=FI (p:=λi=>at' l (i:Int)=x) i (by rw[kV r,o]);exact⟨m,by omega,c,s⟩
   obtain⟨i,r,d,c⟩:=a;refine⟨i,?_,iff_of_true (by omega) b⟩
   unfold pA;exact eO (step:=jU l x) (K:=some (i:Int)) i (λk=>(k:Int)) (λk n g=>by
    unfold jU;rw[if_pos (by omega),cC (by omega),if_neg (λe=>c k g e.symm),dZ (by omega)]) (λn=>by
    unfold jU;rw[if_pos (by omega),cC (by omega),if_pos d.symm]) f (by omega)
  ·refine⟨-1,?_,iff_of_false (by omega) b⟩
   unfold pA;exact eO (step:=jU l x) (K:=some (-1)) l.length (λk=>(k:Int)) (λk n g=>by
    unfold jU;rw[if_pos (by omega),cC (by omega),if_neg (λe=>b (by rw[e,kV g];exact List.getElem_mem g)),dZ (by omega)]) (λn=>by
    unfold jU tX;rw[if_neg (by omega)]) f h
 obtain⟨i,d,c⟩:=q;unfold qO;rw[bF d];by_cases b:x∈l
 ·rw[decide_eq_true b,decide_eq_true (c.2 b)]
 ·rw[decide_eq_false b,decide_eq_false (λe=>b (c.1 e))]
def pN (l:aP):Int:=match l.findIdx? nz with
 |some i=>(i:Int)
 |none=> -1
theorem qY {l:aP} {i:Nat} (a:i<l.length) (b:at' l (i:Int)≠0) (c:∀j,j<i->at' l (j:Int)=0):pN l=i:=by
 have:l.findIdx? nz=some i:=by
  rw[List.findIdx?_eq_some_iff_getElem];refine⟨a,by rw[<-kV a];simpa [nz]using b,λj d=> ?_⟩
  have:=c j d;rw[kV (by omega)]at this;simp[nz,this]
 unfold pN;rw[this]
theorem AE {l:aP} (h:∀j,j<l.length->at' l (j:Int)=0):pN l = -1:=by
 have:l.findIdx? nz=none:=by
  rw[List.findIdx?_eq_none_iff];intro x b;obtain⟨i,a,rfl⟩:=List.mem_iff_getElem.1 b;have:=h i a;rw[kV a]at this;simp[nz,this]
 unfold pN;rw[this]
theorem Wv (f:Nat) (l:aP) (h:l.length<f) (t:l.length<=1000):mL f l (λq=>nX f q)=some (pN l):=by
 unfold mL;by_cases a:∃i,i<l.length∧at' l (i:Int)≠0
 ·obtain⟨i,s,o⟩:=a;obtain⟨m,r,n,b⟩:=FI (p:=λi=>at' l (i:Int)≠0) i o;have b:∀j,j<m->at' l (j:Int)=0:=λj d=>Decidable.not_not.1 (b j d);rw[qY (by omega) n b];exact eO (step:=fL l _) (K:=some (m:Int)) m (λk=>(k:Int)) (λk c g=>by
   unfold fL nX;rw[if_pos (by omega),cC (by omega),bF Z,if_neg (by simp[b k g]),dZ (by omega)]) (λc=>by
   unfold fL nX;rw[if_pos (by omega),cC (by omega),bF Z,if_pos (by simpa using n)]) f (by omega)
 ·have a:∀j,j<l.length->at' l (j:Int)=0:=λj d=>Decidable.not_not.1 λe=>a ⟨j,d,e⟩;rw[AE a];exact eO (step:=fL l _) (K:=some (-1)) l.length (λk=>(k:Int)) (λk c g=>by
   unfold fL nX;rw[if_pos (by omega),cC (by omega),bF Z,if_neg (by simp[a k g]),dZ (by omega)]) (λc=>by
   unfold fL oI;rw[if_neg (by omega)]) f h
def yK (l:aP):Int:=l.foldl min 1073741824
theorem adj (f:Nat) (l:aP) (h:l.length<f) (c:l.length<=1000):bK (rU l) f ((1073741824:Int),(0:Int))=some (yK l):=by
 exact eO (step:=rU l) (K:=some (yK l)) l.length (λk=>((l.take k).foldl min 1073741824,(k:Int))) (λk a b=>by
  unfold rU;dsimp only;rw[if_pos (by omega),cC (by omega),Ee b,List.foldl_append,dZ (by omega)];rfl) (λa=>by
  unfold rU zC;dsimp only;rw[if_neg (by omega),List.take_length];rfl) f h
theorem MB {l:aP} {x:Int} (h:x∈l):yK l<=x:=by
 have c:∀(l:aP) (a:Int),l.foldl min a<=a∧∀x∈l,l.foldl min a<=x:=by
  intro l
  induction l with
  |nil=>intro a;exact⟨Int.le_refl a,λx b=>by cases b⟩
  |cons y l e=>
   intro a;obtain⟨f,d⟩:=e (min a y);refine⟨by simp only[List.foldl_cons];omega,λx b=> ?_⟩
   rcases List.mem_cons.1 b with rfl|b
   ·simp only[List.foldl_cons];omega
   ·exact d x b
 exact(c l _).2 x h
theorem JD (l:aP):yK l=1073741824∨yK l∈l:=by
 have b:∀(l:aP) (a:Int),l.foldl min a=a∨l.foldl min a∈l:=by
  intro l
  induction l with
  |nil=>intro a;exact .inl Z
  | cons y l ih =>
   intro a;rcases ih (min a y)with h|h
   ·simp only[List.foldl_cons,h];rcases Int.le_total a y with q|q
    ·left;omega
    ·right;rw[show min a y=y by omega];exact List.mem_cons_self
   ·right;exact List.mem_cons_of_mem _ h
 exact b l _
def Oo (l:aP):Nat->Nat->Nat
 |0,k=>k
 |f+1,k=>if((k:Nat):Int)∈l then Oo l f (k+1)else k
def QU (l:aP):Nat:=Oo l (l.length+1) 0
theorem Xi (l:aP):((QU l:Nat):Int)∉l∧(∀j,j<QU l->((j:Nat):Int)∈l)∧QU l<=l.length:=by
 have key:∀(f k:Nat),(∀j,j<k->((j:Nat):Int)∈l)->(∀j,j<Oo l f k->((j:Nat):Int)∈l)∧(Oo l f k=k+f∨((Oo l f k:Nat):Int)∉l):=by
  intro f
  induction f with
  |zero=>intro k h;exact⟨h,.inl Z⟩
  | succ f ih =>
   intro k h;by_cases hk:((k:Nat):Int)∈l
   ·have:=ih (k+1) (λj hj=>by
     rcases Nat.lt_or_ge j k with q|q
     ·exact h j q
     ·rw[show j=k by omega];exact hk)
    simp only[Oo,if_pos hk];exact⟨this.1,this.2.imp (λe=>by omega) id⟩
   ·simp only[Oo,if_neg hk];exact⟨h,.inr hk⟩
 have hle:∀m,(∀j,j<m->((j:Nat):Int)∈l)->m<=l.length:=λm h=>by
  have:=SG ((List.range m).map λj=>((j:Nat):Int)) l (by
   rw[List.nodup_iff_pairwise_ne,List.pairwise_map];exact(List.nodup_iff_pairwise_ne.1 List.nodup_range).imp (λh e=>h (by omega))) (λx hx=>by
   obtain⟨j,hj,rfl⟩:=List.mem_map.1 hx;exact h j (List.mem_range.1 hj))
  simpa using this
 obtain⟨h1,h2⟩:=key (l.length+1) 0 (λj hj=>by omega);have h3:=hle _ h1;refine⟨?_,h1,h3⟩
 rcases h2 with h2|h2
 ·have:Oo l (l.length+1) 0<=l.length:=h3;omega
 ·exact h2
theorem adi (f:Nat) (l:aP) (h:l.length+2<f) (hl:l.length<=900):zV f l=some ((QU l:Nat):Int):=by
 obtain⟨h1,h2,h3⟩:=Xi l;unfold zV;exact eO (step:=xV f l) (K:=some ((QU l:Nat):Int)) (QU l) (λk=>(k:Int)) (λk ag hk=>by
  unfold xV;rw[bF (Hr f l (k:Int) (by omega) (by omega)),if_pos (by simpa using h2 k hk),dZ (by omega)]) (λag=>by
  unfold xV AD;rw[bF (Hr f l _ (by omega) (by omega)),if_neg (by simpa using h1)]) f (by omega)
def aaK (l:aP):Int:=l.foldl (λa x=>wI .i64 (a+x)) 0
theorem adC (f:Nat) (l:aP) (h:l.length<f) (c:l.length<=1000):bK (rV f l) f ((0:Int),(0:Int))=BP f (aaK l):=by
 refine(eO (step:=rV f l) l.length (λk=>(aaK (l.take k),(k:Int))) (λk a b=> ?_) (λa=> ?_) f h).trans Z
 ·unfold rV;dsimp only;rw[if_pos (by omega),cC (by omega),dZ (by omega),Ee b];unfold aaK;rw[List.foldl_append];rfl
 ·unfold rV;dsimp only;rw[if_neg (by omega),List.take_length]
def Sk (o:Int) (l:aP):Int:=
 if o=20 then zO (l.all nz)else if o=21 then zO (l.any nz)else if o=22 then((l.countP nz:Nat):Int)else if o=23 then pN l else if o=24 then yK l else if o=26 then max (-1073741824) (min (aaK l) 1073741824)else((QU l:Nat):Int)
theorem ZV (f:Nat) (o:Int) (l:aP) (hf:40<=f) (hl:l.length<=24) (ho:o=20∨o=21∨o=22∨o=23∨o=24∨o=26∨o=27):AJ f o l=some (Sk o l):=by
 have hc:=VX f l (by omega) (by omega);unfold AJ;rcases ho with rfl|rfl|rfl|rfl|rfl|rfl|rfl
 ·rw[if_pos Z,bF hc,bF (tE f _),Sk,if_pos Z];have:(decide (((l.countP nz:Nat):Int)=(l.length:Int)))=l.all nz:=by
   rw[Bool.eq_iff_iff];simp[List.countP_eq_length,Int.ofNat_inj]
  rw[this]
 ·rw[if_neg (by decide),if_pos Z,bF hc,bF (tE f _),Sk,if_neg (by decide),if_pos Z];have:(decide ((0:Int)<((l.countP nz:Nat):Int)))=l.any nz:=by
   rw[Bool.eq_iff_iff,decide_eq_true_eq,List.any_eq_true,show((0:Int)<((l.countP nz:Nat):Int))↔0<l.countP nz by omega,List.countP_pos_iff]
  rw[this]
 ·rw[if_neg (by decide),if_neg (by decide),if_pos Z,bF hc];rfl
 ·rw[if_neg (by decide),if_neg (by decide),if_neg (by decide),if_pos Z,bF (Wv f l (by omega) (by omega))];rfl
 ·rw[if_neg (by decide),if_neg (by decide),if_neg (by decide),if_neg (by decide),if_pos Z,adj f l (by omega) (by omega)];rfl
 ·rw[if_neg (by decide),if_neg (by decide),if_neg (by decide),if_neg (by decide),if_neg (by decide),if_neg (by decide),if_pos Z,adC f l (by omega) (by omega)];rfl
 ·rw[if_neg (by decide),if_neg (by decide),if_neg (by decide),if_neg (by decide),if_neg (by decide),if_neg (by decide),if_neg (by decide),if_pos Z,bF (adi f l (by omega) (by omega))];rfl
end Go.Proofs.YtmdlcmbplnhdnaaGreatDoor
namespace Go.Proofs.YtmdlcmbplnhdnaaGreatDoor
open Go.Sx
def tY  (a:bI):Option bI:=
 some (a)
def yO (a:bI×Int) (c:(bI×Int)->Option bI) (b:aP):Option bI:=
 ck ((List.length a.1:Int)+(List.length ([b]):Int)<=1099511627) (c ((a.1++[b]),(wI .i64 (a.2+(1:Int)))))
def nH (U:Nat) (g:HE) (h:aP) (e:bI×Int) (a:aP×Int) (c:(aP×Int)->Option bI) (b:fH):Option bI:=
 Option.bind (rD U h (wI .i64 ((wI .i64 (e.2*(List.length g:Int)))+a.2))) λf=>(Option.bind (fE U f (wI .i64 ((wI .i64 (b.2 - b.1))+(1:Int)))) λd=>(ck ((List.length a.1:Int)+(List.length ([(wI .i64 (b.1+d))]):Int)<=1099511627) (c ((a.1++([(wI .i64 (b.1+d))])),(wI .i64 (a.2+(1:Int)))))))
def nJ (U:Nat) (f:cQ) (c:HE) (g:aP) (h:Int) (b:bI×Int) (e:(bI×Int)->Option bI) (a:aP×Int) (d:(aP×Int)->Option bI):Option bI:=
 if a.2<(List.length c:Int)then(ck (0<=a.2∧a.2<(List.length c:Int)) (ck (0<=a.2∧a.2<(List.length c:Int)) (ck (0<=a.2∧a.2<(List.length c:Int)) (ck (0<=a.2∧a.2<(List.length c:Int)) (ck (0<=a.2∧a.2<(List.length c:Int)) (if((at' c a.2).2.1)=(2:Int)then(nH U c g b a d ((0:Int),(1:Int)))else(if((at' c a.2).2.1)=(3:Int)then(ck (0<=b.2∧b.2<(List.length f.2:Int)) (nH U c g b a d ((-1:Int),(wI .i64 ((List.length (at' f.2 b.2):Int) - (1:Int))))))else(nH U c g b a d (((at' c a.2).2.2.1),(wI .i64 ((wI .i64 (((at' c a.2).2.2.2.1)+(wI .i64 (((at' c a.2).2.2.2.2.1)*(List.length f.2:Int)))))+(wI .i64 (((at' c a.2).2.2.2.2.2)*h)))))))))))))else(yO b e (a.1))
def jV (U:Nat) (c:cQ) (e:HE) (f:aP) (d:Int) (a:bI×Int) (b:(bI×Int)->Option bI):Option bI:=
 if a.2<(List.length c.2:Int)then(bK (nJ U c e f d a b) U (([]:aP),(0:Int)))else(tY  (a.1))
def qE (U:Nat) (b:cQ) (c:HE) (d:aP) (a:Int):Option bI:=
 bK (jV U b c d a) U (([]:bI),(0:Int))
def tZ (U:Nat) (c:cQ) (d:HE) (e:aP) (a:fH) (b:i_->Option bI):Option bI:=
 if a.2<(List.length c.2:Int)then(ck (0<=a.2∧a.2<(List.length c.1:Int)) (b ((max a.1 (at' c.1 a.2)),(wI .i64 (a.2+(1:Int))))))else(qE U c d e (a.1))
def mM (U:Nat) (a:cQ) (b:HE) (c:aP):Option bI:=
 bK (tZ U a b c) U ((0:Int),(0:Int))
theorem abV:aT Tryz.prog 11:=Tryz.call11
theorem JY (U:Nat) {g:cQ} {n:HE} {s:aP} (v:Value)  (w:Value)  (z2:mZ)  (F:Value)  (y:Value) (r:bI) (h:mM U g n s=some r):
  aY Tryz.prog 11 #[Value.agg #[v,w],F,y] [Sl bP v g.1,S2 bA w z2 g.2,Sl aQ F n,Sl bP y s] (λx:Kc=>x.1) (λx l=>Ar cO.raw x.1 x.2::kN b_ x.2 r::l) (λ_ l=>l):=by
 refine aY.of Tryz.func11 Z Tryz.ntmps11 Z λc=>?_;unfold mM at h;refine aU<|aG (aL.box (cs:=[v,w]) Z Z) Z λp=>aD Z<|aM<|aU<|bU Z<|dL 0 Z<|aC (jW Z (aE.fact 1 Z) Z) Z<|aD Z<|aD Z<|aM<|aJ<|fF (λk=>qE U g n s k=some r) (λk b4=>[(1,F),(2,y),(3,vP p),(7,vI (List.length g.2:Int)),(8,vI (k))]) (λk b4=>[bV p [v,w] 29]) ?_ ?_
 ·refine aU<|aD Z<|aM<|aV<|e_ (tZ U g n s) (λi J=>[(1,F),(2,y),(3,vP p),(7,vI (List.length g.2:Int)),(8,vI (i.1)),(9,vI (i.2))]) (λi J=>[bV p [v,w] 29]) ((0:Int),(0:Int)) () h SF (aZ.refl _) ?_;intro ac i J h;refine aJ<|aU<|aA Z<|aA Z<|cX Z<|aM ?_;refine fC h Z (λh=>?_) λh=>?_
  ·refine cV<|aJ<|aV<|aR<|aA Z<|bU Z<|dL 0 Z<|aA Z<|dH h λQ h=>aC (bB Z Z (aE.fact 0 Z) Z Z Q) Z<|aC (bY Z (aE.fact 0 Z) Z Z Z dJ Q) Z<|aC (NL Z Z) Z<|aD Z<|eR<|o_<|aR<|aA Z<|cP Z<|aD Z<|aM ?_;exact AT ((max i.1 (at' g.1 i.2)),(wI .i64 (i.2+(1:Int)))) () h SF Z
  refine gK ?_;exact jP (i.1) () h SF Z
 intro k b4 h;unfold qE at h;refine aU<|aD Z<|aM<|aJ<|Ei (B:=Kc) (λH=>tY  H=some r) (λH A=>[(10,A.1)]) (λH A=>[Ar cO.raw A.1 A.2,kN b_ A.2 H]) ?_ ?_
 ·refine aU<|aD Z<|aM<|aV<|jD (iC cO.raw) (jD (CR b_) ?_);refine e_ (B:=Kc) (jV U g n s k) (λb a=>[(1,F),(2,y),(3,vP p),(7,vI (List.length g.2:Int)),(8,vI (k)),(10,a.1),(11,vI (b.2))]) (λb a=>[bV p [v,w] 29,Ar cO.raw a.1 a.2,kN b_ a.2 b.1]) (([]:bI),(0:Int)) ((lC),([]:fM)) h SF (aZ.ix [2,1,0] Z Z) ?_;intro G b a h;refine aJ<|aU<|aA Z<|aA Z<|cX Z<|aM ?_;refine fC h Z (λh=>?_) λh=>?_
  ·refine cV<|aJ<|aV<|aU<|aD Z<|aM<|aJ<|Ei (B:=Value) (λo=>yO b (bK (jV U g n s k) G) o=some r) (λo j=>[(1,F),(2,y),(3,vP p),(7,vI (List.length g.2:Int)),(8,vI (k)),(10,a.1),(11,vI (b.2)),(12,j)]) (λo j=>[bV p [v,w] 29,Ar cO.raw a.1 a.2,kN b_ a.2 b.1,Ar b_ j o]) ?_ ?_
   ·refine aU<|aD Z<|aM<|aV<|jD (iC b_)<|e_ (B:=Value) (nJ U g n s k b (bK (jV U g n s k) G)) (λd m=>[(1,F),(2,y),(3,vP p),(7,vI (List.length g.2:Int)),(8,vI (k)),(10,a.1),(11,vI (b.2)),(12,m),(13,vI (d.2))]) (λd m=>[bV p [v,w] 29,Ar cO.raw a.1 a.2,kN b_ a.2 b.1,Ar b_ m d.1]) (([]:aP),(0:Int)) (lC) h SF (aZ.ix [1,2,3,0] Z Z) ?_;intro S d m h;refine aJ<|aU<|aA Z<|aA Z<|kP (aE.fact 2 Z) Z<|cX Z<|aM ?_;refine fC h Z (λh=>?_) λh=>?_
    ·refine cV<|aJ<|aV<|aJ ?_;refine JR.start [0,0,3,7,15,0,0,96,224,480,0,0,3072,7168,15360,0,64512,131040,0,0,786432,1835008,3932160,0,16515072,33554400,31,134217727] 27 mixedOrders (by decide +kernel) ?_;refine JR.open (by exact rfl) ?_;refine bG Z<|bG Z<|dH h λL h=>bJ Z .nil (nA 2 Z) (bB Z Z (aE.fact 0 Z) Z Z L) aK.z<|iH Z (oL Z Z Z Z Z)<|bJ Z .nil (nA 2 Z) (qM Z (aE.fact 0 Z) Z Z Z CB L) aK.z<|bG Z<|bG Z<|dH h λM h=>bJ Z .nil (nA 2 Z) (bB Z Z (aE.fact 0 Z) Z Z M) aK.z<|iH Z (oL Z Z Z Z Z)<|bJ Z .nil (nA 2 Z) (qM Z (aE.fact 0 Z) Z Z Z CC M) aK.z<|bG Z<|bG Z<|dH h λN h=>bJ Z .nil (nA 2 Z) (bB Z Z (aE.fact 0 Z) Z Z N) aK.z<|iH Z (oL Z Z Z Z Z)<|bJ Z .nil (nA 2 Z) (qM Z (aE.fact 0 Z) Z Z Z CE N) aK.z<|bG Z<|iH Z (AS Z Z)<|iH Z (uD Z Z)<|bG Z<|bG Z<|dH h λO h=>bJ Z .nil (nA 2 Z) (bB Z Z (aE.fact 0 Z) Z Z O) aK.z<|iH Z (oL Z Z Z Z Z)<|bJ Z .nil (nA 2 Z) (qM Z (aE.fact 0 Z) Z Z Z CF O) aK.z<|bG Z<|iH Z (AS Z Z)<|iH Z (uD Z Z)<|iH Z (lJ Z)<|bN 27 Z Z<|aD Z<|aM<|aJ<|fF (λf=>nH U n s b d (bK (nJ U g n s k b (bK (jV U g n s k) G)) S) f=some r) (λf I=>[(1,F),(2,y),(3,vP p),(7,vI (List.length g.2:Int)),(8,vI (k)),(10,a.1),(11,vI (b.2)),(12,m),(13,vI (d.2)),(14,vI (f.1)),(15,vI (f.2))]) (λf I=>[bV p [v,w] 29,Ar cO.raw a.1 a.2,kN b_ a.2 b.1,Ar b_ m d.1]) ?_ ?_
     ·refine aU<|aA Z<|aA Z<|dH h λP h=>aC (bB Z Z (aE.fact 2 Z) Z Z P) Z<|aC (oL Z Z Z Z Z) Z<|aC (qM Z (aE.fact 2 Z) Z Z Z wK P) Z<|aM<|aV<|aU<|cN Z<|aD Z<|aM ?_;refine fC h Z (λh=>?_) λh=>?_
      ·refine aR<|aD Z<|aD Z<|eR<|o_ ?_;exact jP ((0:Int),(1:Int)) () h SF Z
      refine aU<|cN Z<|aD Z<|aM ?_;refine fC h Z (λh=>?_) λh=>?_
      ·refine JR.start [0,1,0,7,15,31,63,0,255] 8 mixedOrders (by decide +kernel) ?_;refine JR.open (by exact rfl) ?_;refine cY Z<|jO 0 Z<|bG Z<|dH h λu h=>bJ Z .nil (nA 1 Z) (cL Z Z (aE.fact 0 Z) Z Z u) aK.z<|bJ Z .nil (nA 1 Z) (cT Z (aE.fact 0 Z) Z Z u) aK.z<|bJ Z .nil (nA 1 Z) (jC Z (aE.el (aE.fact 0 Z) u.1 u.2) Z) aK.z<|iH Z (nW Z Z)<|iH Z (lJ Z)<|bN 8 Z Z<|aD Z<|eR<|o_ ?_;exact jP ((-1:Int),(wI .i64 ((List.length (at' g.2 b.2):Int) - (1:Int)))) () h SF Z
      refine dX<|o_ ?_;exact jP (((at' n d.2).2.2.1),(wI .i64 ((wI .i64 (((at' n d.2).2.2.2.1)+(wI .i64 (((at' n d.2).2.2.2.2.1)*(List.length g.2:Int)))))+(wI .i64 (((at' n d.2).2.2.2.2.2)*k))))) () h SF Z
     intro f I h;refine aR<|aA Z<|aA Z<|aA Z<|aA Z<|aA Z<|kP (aE.fact 2 Z) Z<|aC (AS Z Z) Z<|aA Z<|cP Z<|fN h λW aa h=>aG (aL.callQ IV (Ap U y W aa) Z (qB [3] Z)) Z λaf=>aA Z<|aA Z<|aC (nW Z Z) Z<|cP Z<|fN h λt ab h=>aG (aL.callQ BJ (jL U  t ab) Z .nil) Z λag=>cP Z<|aG (bZ (e:=b_) ([(wI .i64 (f.1+t))]) [(0,vI (wI .i64 (f.1+t)))] Z Z Z Z (nQ (vI (wI .i64 (f.1+t))) Z) Z Z Z) Z λae=>dH h λR h=>aG (eJ 4 cZ Z Z Z (bD (aE.res 0 Z) cZ) Z Z Z Z R Z) Z λY=>aD Z<|eR<|o_<|aR<|aA Z<|cP Z<|aD Z<|aM ?_;exact nM ((d.1++([(wI .i64 (f.1+t))])),(wI .i64 (d.2+(1:Int)))) (Y) h SF (aZ.ix [1,2,3,4] Z Z) (aF.refl _ _)
    refine gK ?_;exact jP (d.1) (m) h SF Z
   intro o j h;refine aR<|aA Z<|aA Z<|jD (CR b_)<|bX (Know.one ((bD (aE.res 4 Z) cZ))) λE=>jD (Qe 0 4 Z Z Z) ?_;refine aG (bZ (e:=cO.raw) [j] [(0,j)] Z Z Z Z (nQ (j) E) Z Z (by simp[cellsOf,cO.raw,E])) Z λad=>?_;refine bX (dA 4 Z) λC=>bX (dA 1 Z) λD=>dH h λK h=>jD (NB 4 1 Z Z Z) ?_;refine aG (aL.append 2 0 Z Z Z Z Z Z Z (by have q:=K;have T:=C;have V:=D;(try simp only[List.length_cons,List.length_nil]at q T V ⊢);omega) (by have q:=K;have T:=C;have V:=D;(try simp only[List.length_cons,List.length_nil]at q T V ⊢);omega) Z) Z λX=>?_;refine aD Z<|eR<|o_<|aR<|aA Z<|cP Z<|aD Z<|aM ?_;exact nM ((b.1++[o]),(wI .i64 (b.2+(1:Int)))) (X,(a.2++[j])) h SF (aZ.ix [1,2,3] Z Z) (aF.refl _ _)
  refine gK ?_;exact cU (b.1) (a.1,a.2) h SF (aZ.ix [1,2] Z Z) (aF.refl _ _)
 intro H A h;unfold tY at h;refine aU<|aA Z<|aD Z<|aM<|aS ?_;cases h;exact iI (A.1,A.2) Z Z (RV.tmp Z) (aZ.refl _) aF.nil
def sK (b:cQ) (a:gE):Option sH:=
 some ((b.1,a))
def lK (U:Nat) (b:CM) (d:cQ) (a:Int×gE) (c:(Int×gE)->Option sH) (e:Bool):Option sH:=
 if e=true then(ck (0<=a.1∧a.1<(List.length b.2.1:Int)) (Option.bind (fE U (at' b.2.1 a.1) (List.length d.2:Int)) λf=>(ck (0<=(wI .i64 (a.1+(1:Int)))∧(wI .i64 (a.1+(1:Int)))<(List.length b.2.1:Int)) (Option.bind (fE U (at' b.2.1 (wI .i64 (a.1+(1:Int)))) (List.length d.2:Int)) λg=>(Option.bind (rD U b.2.2.1 a.1) λh=>(Option.bind (fE U h (15:Int)) λi=>(Option.bind (mI U ((b.1,b.2.1,b.2.2.1,b.2.2.2.1,b.2.2.2.2.1,b.2.2.2.2.2)) ((d.1,a.2)) f g (wI .i64 ((1:Int)+i))) λj=>(c ((wI .i64 (a.1+(2:Int))),j)))))))))else(sK d (a.2))
def oD (U:Nat) (c:CM) (d:cQ) (a:Int×gE) (b:(Int×gE)->Option sH):Option sH:=
 if(wI .i64 (a.1+(1:Int)))<(List.length c.2.1:Int)then(lK U c d a b (decide (a.1<(60:Int))))else(lK U c d a b (false))
def mJ (U:Nat) (b:CM) (a:cQ):Option sH:=
 bK (oD U b a) U ((List.length a.2:Int),a.2)
theorem abX:aT Tryz.prog 25:=Tryz.call25
theorem EX (U:Nat) {a:CM} {e:cQ} (n:Value)  (m:Value)  (o:Value)  (f:Value)  (g:Value)  (O:fM) (r:DD) (h:mJ U a e=some r):
  EE Tryz.prog 25 #[Value.agg #[vI (a.1),n,m,o,vB (a.2.2.2.2.1),vB (a.2.2.2.2.2)],Value.agg #[f,g]] [Ar b_ f e.1,Ar cO.raw g O,kN bT O e.2] [Sl bP n a.2.1,Sl bP m a.2.2.1,Sl bP o a.2.2.2.1] (λx:Value×Value×List Value=>Value.agg #[x.1,x.2.1]) (λx l=>Ar b_ x.1 r.1::Ar cO.raw x.2.1 x.2.2::kN bT x.2.2 r.2::l):=by
 refine EE.of (vs:=[Value.agg #[vI (a.1),n,m,o,vB (a.2.2.2.2.1),vB (a.2.2.2.2.2)],Value.agg #[f,g]]) Tryz.func25 Z Tryz.ntmps25 Z λc=>?_;unfold mJ at h;refine aU<|aG (aL.box (cs:=[vI (a.1),n,m,o,vB (a.2.2.2.2.1),vB (a.2.2.2.2.2)]) Z Z) Z λv=>aG (aL.box (cs:=[f,g]) Z Z) Z λq=>aG (aL.alloc (cs:=[lC,lC]) Z Z) Z λs=>aM<|aU<|bU Z<|dL 1 Z<|aC (jW Z (bS (i:=4) (j:=5) Z Z bR) Z) Z<|aD Z<|aM<|aJ<|By (B:=fM) (λt=>sK e t=some r) (λt u=>[(3,vP q),(4,vP s)]) (λt u=>[bV s [lC,lC] 29,bV q [f,g] 29,Ar b_ f e.1,Ar cO.raw g u,kN bT u t]) (λt u=>[Sl bP n a.2.1,Sl bP m a.2.2.1,Sl bP o a.2.2.2.1]) ?_ ?_
 ·refine aU<|aA Z<|aD Z<|aM<|aV<|Fg (B:=fM) (oD U a e) (λb d=>[(2,vP v),(3,vP q),(4,vP s),(5,vI (List.length e.2:Int)),(6,vI (b.1))]) (λb d=>[bV s [lC,lC] 29,bV q [f,g] 29,bV v [vI (a.1),n,m,o,vB (a.2.2.2.2.1),vB (a.2.2.2.2.2)] 24,Ar b_ f e.1,Ar cO.raw g d,kN bT d b.2]) (λb d=>[Sl bP n a.2.1,Sl bP m a.2.2.1,Sl bP o a.2.2.2.1]) ((List.length e.2:Int),e.2) (O) h SF (aZ.refl _) (aF.refl _ _) ?_;intro J b d h;refine aJ<|aJ<|By (B:=Unit) (λk=>lK U a e b (bK (oD U a e) J) k=some r) (λk p=>[(2,vP v),(3,vP q),(4,vP s),(5,vI (List.length e.2:Int)),(6,vI (b.1)),(20,vB (k))]) (λk p=>[bV s [lC,lC] 29,bV q [f,g] 29,bV v [vI (a.1),n,m,o,vB (a.2.2.2.2.1),vB (a.2.2.2.2.2)] 24,Ar b_ f e.1,Ar cO.raw g d,kN bT d b.2]) (λk p=>[Sl bP n a.2.1,Sl bP m a.2.2.1,Sl bP o a.2.2.2.1]) ?_ ?_
  ·refine aR<|aA Z<|cP Z<|bU Z<|dL 2 Z<|kP (aE.fact 0 Z) Z<|cX Z<|aA Z ?_;refine EN h Z (λ_ h=>?_) λ_ h=>?_
   ·refine eX Z<|aW Z (Kz Z Z) Z<|fK Z<|aM ?_;exact jP (decide (b.1<(60:Int))) () h SF Z
   refine aN Z<|aN Z<|iL Z<|aM ?_;exact jP (false) () h SF Z
  intro k p h;refine Bm h Z (λ_ h=>?_) λ_ h=>?_
  ·refine cV<|aJ<|aV ?_;refine JR.start [0,0,0,4,0,28,60,0,252,0,512,0,2048,7680,15872,0,65532,0,131072,0,1048572,2097148,4194300,8388607] 23 mixedOrders (by decide +kernel) ?_;refine JR.open (by exact rfl) ?_;refine pG 2 Z<|pG 1 Z<|cY Z<|jO 2 Z<|bG Z<|dH h λE h=>bJ Z .nil (nA 0 Z) (bB Z Z (aE.fact 0 Z) Z Z E) aK.z<|bJ Z .nil (nA 0 Z) (bY Z (aE.fact 0 Z) Z Z Z dJ E) aK.z<|bG Z<|fN h λK w h=>JR.loud Z Z Z (aL.callQ BJ (jL U  K w) Z .nil) Z (λP=>(uZ [([1],[]),([2],[])] Z)) λP=>iH Z (eT Z Z Z Z Z)<|bJ Z (aZ.cons 2 Z .nil) .nil (gV 0 Z Z Z Z Z) (aK.h (aZ.ix [2] Z Z) .nil aK.z)<|iH Z (fZ Z)<|iH Z (uD Z Z)<|dH h λF h=>bJ Z .nil (nA 0 Z) (bB Z Z (aE.fact 0 Z) Z Z F) (aK.h .nil (nA 0 Z) aK.z)<|bJ Z .nil (nA 0 Z) (bY Z (aE.fact 0 Z) Z Z Z dJ F) (aK.h .nil (nA 0 Z) aK.z)<|iH Z (fZ Z)<|fN h λL y h=>JR.loud Z Z Z (aL.callQ BJ (jL U  L y) Z .nil) Z (λQ=>(uZ [([1],[]),([2],[])] Z)) λQ=>iH Z (eT Z Z Z Z Z)<|bJ Z (aZ.cons 2 Z .nil) .nil (gV 0 Z Z Z Z Z) (aK.h (aZ.ix [2] Z Z) .nil (aK.h (aZ.ix [2] Z Z) .nil aK.z))<|iH Z (fZ Z)<|fN h λM A h=>JR.loud Z Z Z (aL.callQ IV (Ap U m M A) Z (qB [1] Z)) Z (λR=>(uZ [([1],[]),([2],[])] Z)) λR=>fN h λN C h=>JR.loud Z Z Z (aL.callQ BJ (jL U  N C) Z .nil) Z (λS=>(uZ [([1],[]),([2],[])] Z)) λS=>iH Z (uD Z Z)<|bN 23 Z Z<|fN h λG D h=>aG (ED (Min:=[Ar cO.raw g d,kN bT d b.2]) (Mr:=[bV s [lC,lC] 29,bV q [f,g] 29,bV v [vI (a.1),n,m,o,vB (a.2.2.2.2.1),vB (a.2.2.2.2.2)] 24,Ar b_ f e.1]) VE (Am U n m o f g d G D) Z (aZ.ix [4,5,0,1,2,3] Z Z) (aF.cons (aE.fact 0 Z) (aF.cons (aE.fact 1 Z) (aF.cons (aE.fact 2 Z) (aF.cons (bD (aE.res 3 Z) cZ) .nil)))) (λ_ _=>rfl)) Z λT=>eR<|o_<|aR<|aA Z<|cP Z<|aD Z<|aM ?_;exact nM ((wI .i64 (b.1+(2:Int))),G) (T) h SF (aZ.ix [2,3,4,5,0,1] Z Z) (aF.refl _ _)
  refine gK ?_;exact cU (b.2) (d) h SF (aZ.ix [0,1,3,4,5] Z Z) (aF.refl _ _)
 intro t u h;unfold sK at h;refine aU<|fG 1 Z<|bX (Know.one ((bD (aE.res 2 Z) cZ))) λH=>bX (Know.one (aE.sl (bS (i:=3) (j:=4) Z Z bR))) λI=>bQ 0 (vs:=[f,g]) Z Z (kR H (kR I Z)) Z Z Z<|aM<|aS ?_;cases h;exact iI (f,g,u) Z Z (RV.cell 0 Z Z Z Z) (aZ.ix [2,3,4] Z Z) aF.nil
def Di  (a:Bool):Option (Bool):=
 some (a)
def uG (a:Nat) (b:Int) (c:Int) (d:Int):Option (Bool):=
 if c<=b then(Di  (decide (b<=d)))else(Di  (false))
def yS  (a:Unit):Option (Bool):=
 some (true)
def yT (b:Int) (a:(Int)->Option (Bool)) (c:Unit):Option (Bool):=
 a (wI .i64 (b+(1:Int)))
def jN (d:eW) (b:Int) (e:(Int)->Option (Bool)) (a:Int) (c:(Int)->Option (Bool)):Option (Bool):=
 if a<b then(ck (0<=a∧a<(List.length d:Int)) (ck (0<=b∧b<(List.length d:Int)) (if((at' d a).1)=((at' d b).1)then(some (false))else(c (wI .i64 (a+(1:Int)))))))else(yT b e (()))
def lN (a:Nat) (e:eW) (d:Int) (c:(Int)->Option (Bool)) (b:Bool):Option (Bool):=
 if b=true then(some (false))else(bK (jN e d c) a (0:Int))
def oH (a:Nat) (c:eW) (g:Int) (h:Int) (b:Int) (d:(Int)->Option (Bool)):Option (Bool):=
 if b<(List.length c:Int)then(ck (0<=b∧b<(List.length c:Int)) (Option.bind (uG a ((at' c b).1) (0:Int) (wI .i64 (h - (1:Int)))) λe=>(if(!e)=true then(lN a c b d (true))else(ck (0<=b∧b<(List.length c:Int)) (if((at' c b).1)=g then(lN a c b d (true))else(ck (0<=b∧b<(List.length c:Int)) (Option.bind (uG a ((at' c b).2) (1:Int) (15:Int)) λf=>(lN a c b d ((!f))))))))))else(yS  (()))
def pV (a:Nat) (b:eW) (c:Int) (d:Int):Option (Bool):=
 bK (oH a b c d) a (0:Int)
def Kl  (a:Unit):Option (Int):=
 some (-1:Int)
def A_ (c:cQ) (a:Int) (e:Int) (b:Int) (d:(Int)->Option (Int)):Option (Int):=
 ck (0<=a∧a<(List.length c.2:Int)) (if b<(List.length (at' c.2 a):Int)then(ck (0<=a∧a<(List.length c.2:Int)) (ck (0<=b∧b<(List.length (at' c.2 a):Int)) (if((at' (at' c.2 a) b).1)=e then(some (b))else(d (wI .i64 (b+(1:Int)))))))else(Kl  (())))
def BW (a:Nat) (b:cQ) (c:Int) (d:Int):Option (Int):=
 bK (A_ b c d) a (0:Int)
def Dj  (a:Unit):Option (Bool):=
 some (true)
def Dk (b:Int) (a:(Int)->Option (Bool)) (c:Unit):Option (Bool):=
 a (wI .i64 (b+(1:Int)))
def Af (b:Int) (a:(Int)->Option (Bool)) (c:Bool):Option (Bool):=
 if c=true then(some (false))else(a (wI .i64 (b+(1:Int))))
def mP (g:Nat) (c:cQ) (a:Int) (f:(Int)->Option (Bool)) (b:Int) (e:(Int)->Option (Bool)):Option (Bool):=
 ck (0<=a∧a<(List.length c.2:Int)) (if b<(List.length (at' c.2 a):Int)then(ck (0<=a∧a<(List.length c.2:Int)) (ck (0<=b∧b<(List.length (at' c.2 a):Int)) (Option.bind (BW g ((c.1,c.2)) ((at' (at' c.2 a) b).1) a) λd=>(if d<(0:Int)then(Af b e (true))else(ck (0<=((at' (at' c.2 a) b).1)∧((at' (at' c.2 a) b).1)<(List.length c.2:Int)) (ck (0<=d∧d<(List.length (at' c.2 ((at' (at' c.2 a) b).1)):Int)) (Af b e (decide (((at' (at' c.2 ((at' (at' c.2 a) b).1)) d).2)≠((at' (at' c.2 a) b).2))))))))))else(Dk a f (())))
def rI (a:Nat) (d:cQ) (b:Int) (c:(Int)->Option (Bool)):Option (Bool):=
 if b<(List.length d.2:Int)then(bK (mP a d b c) a (0:Int))else(Dj  (()))
def Ae (a:Nat) (b:cQ) (c:Unit):Option (Bool):=
 bK (rI a b) a (0:Int)
def Dl (b:Int) (a:(Int)->Option (Bool)) (c:Unit):Option (Bool):=
 a (wI .i64 (b+(1:Int)))
def pC (e:cQ) (a:Int) (c:(Int)->Option (Bool)) (b:Int) (d:(Int)->Option (Bool)):Option (Bool):=
 if b<a then(ck (0<=b∧b<(List.length e.1:Int)) (ck (0<=a∧a<(List.length e.1:Int)) (if(at' e.1 b)=(at' e.1 a)then(some (false))else(d (wI .i64 (b+(1:Int)))))))else(Dl a c (()))
def rF (b:Nat) (e:cQ) (c:Int) (a:(Int)->Option (Bool)) (d:Bool):Option (Bool):=
 if d=true then(some (false))else(bK (pC e c a) b (0:Int))
def rJ (b:Nat) (c:cQ) (a:Int) (d:(Int)->Option (Bool)):Option (Bool):=
 if a<(List.length c.2:Int)then(ck (0<=a∧a<(List.length c.1:Int)) (Option.bind (uG b (at' c.1 a) (0:Int) (255:Int)) λe=>(if(!e)=true then(rF b c a d (true))else(ck (0<=a∧a<(List.length c.2:Int)) (if(List.length c.2:Int)<=(List.length (at' c.2 a):Int)then(rF b c a d (true))else(ck (0<=a∧a<(List.length c.2:Int)) (Option.bind (pV b (at' c.2 a) a (List.length c.2:Int)) λf=>(rF b c a d ((!f))))))))))else(Ae b c (()))
def Ad (a:Nat) (c:cQ) (b:Bool):Option (Bool):=
 if b=true then(some (false))else(bK (rJ a c) a (0:Int))
def xI (a:Nat) (b:cQ):Option (Bool):=
 Option.bind (uG a (List.length b.2:Int) (1:Int) (24:Int)) λc=>(if(!c)=true then(Ad a b (true))else(Ad a b (decide ((List.length b.1:Int)≠(List.length b.2:Int)))))
def zY  (a:aP):Option aP:=
 some (a)
def zZ (b:kG) (a:qD->Option aP) (c:aP):Option aP:=
 a ((wI .i64 (b.1+(1:Int))),c)
def z_ (b:kG) (a:qD->Option aP) (c:aP):Option aP:=
 a ((wI .i64 (b.1+(1:Int))),c)
def uK (b:kG) (a:qD->Option aP) (c:aP):Option aP:=
 a ((wI .i64 (b.1+(1:Int))),c)
def uJ (f:cQ) (d:kG) (b:kG) (e:qD->Option aP) (a:kG) (c:qD->Option aP) (g:Bool):Option aP:=
 if g=true then(ck (0<=b.1∧b.1<(List.length f.2:Int)) (ck (0<=a.1∧a.1<(List.length (at' f.2 b.1):Int)) (ck (0<=((at' (at' f.2 b.1) a.1).1)∧((at' (at' f.2 b.1) a.1).1)<(List.length a.2:Int)) (if(at' a.2 ((at' (at' f.2 b.1) a.1).1))=(wI .i64 (d.1 - (1:Int)))then(ck (0<=b.1∧b.1<(List.length a.2:Int)) (uK a c (List.set a.2 (Int.toNat b.1) d.1)))else(uK a c (a.2))))))else(z_ b e (a.2))
def uL (f:cQ) (e:kG) (a:kG) (c:qD->Option aP) (b:kG) (d:qD->Option aP):Option aP:=
 ck (0<=a.1∧a.1<(List.length f.2:Int)) (if b.1<(List.length (at' f.2 a.1):Int)then(ck (0<=a.1∧a.1<(List.length b.2:Int)) (uJ f e a c b d (decide ((at' b.2 a.1)<(0:Int)))))else(uJ f e a c b d (false)))
def Ab (e:Nat) (f:cQ) (b:kG) (c:qD->Option aP) (a:kG) (d:qD->Option aP):Option aP:=
 if a.1<(List.length f.2:Int)then(bK (uL f b a d) e ((0:Int),a.2))else(zZ b c (a.2))
def Aa (b:Nat) (d:cQ) (a:kG) (c:qD->Option aP):Option aP:=
 if a.1<(List.length d.2:Int)then(bK (Ab b d a c) b ((0:Int),a.2))else(zY  (a.2))
def zX (a:Nat) (d:cQ) (b:Int) (c:aP):Option aP:=
 ck (0<=b∧b<(List.length c:Int)) (bK (Aa a d) a ((1:Int),(List.set c (Int.toNat b) (0:Int))))
def Ac (c:Nat) (d:cQ) (e:Int) (a:aP×Int) (b:(aP×Int)->Option aP):Option aP:=
 if a.2<(List.length d.2:Int)then(ck ((List.length a.1:Int)+(List.length ([(-1:Int)]):Int)<=1099511627) (b ((a.1++([(-1:Int)])),(wI .i64 (a.2+(1:Int))))))else(zX c d e (a.1))
def uI (a:Nat) (c:cQ) (d:Int) (b:Bool):Option aP:=
 if b=true then(some ([]:aP))else(bK (Ac a c d) a (([]:aP),(0:Int)))
def AK (a:Nat) (b:cQ) (c:Int):Option aP:=
 Option.bind (xI a ((b.1,b.2))) λd=>(if(!d)=true then(uI a b c (true))else(Option.bind (uG a c (0:Int) (wI .i64 ((List.length b.2:Int) - (1:Int)))) λe=>(uI a b c ((!e)))))
def AH  (a:Int):Option (Int):=
 some (a)
def AI (c:aP) (a:fH) (b:i_->Option (Int)):Option (Int):=
 if a.2<(List.length c:Int)then(ck (0<=a.2∧a.2<(List.length c:Int)) (b ((max a.1 (at' c a.2)),(wI .i64 (a.2+(1:Int))))))else(AH  (a.1))
def rX (a:Nat) (b:aP):Option (Int):=
 bK (AI b) a ((-1:Int),(0:Int))
def mY (a:Nat) (b:cQ) (d:Int) (c:Bool):Option (Int):=
 if c=true then(some (-1:Int))else(Option.bind (jI a ((b.1,b.2)) d) λe=>(Option.bind (rX a e) λf=>(some (f))))
def q_ (a:Nat) (b:cQ) (c:Int):Option (Int):=
 Option.bind (fV a ((b.1,b.2))) λd=>(if(!d)=true then(mY a b c (true))else(if c<(0:Int)then(mY a b c (true))else(mY a b c (decide ((List.length b.2:Int)<=c)))))
def vR (U:Nat) (a:ByteArray) (b:Int) (c:Int) (d:Int):Option ((ByteArray×Int×Int×Int×Int×Int)):=
 some ((a,(1:Int),(0:Int),b,c,d))
theorem VC:aT Tryz.prog 32:=Tryz.call32
theorem Dx (U:Nat) {a:ByteArray} {b:Int} {d:Int} {e:Int} (r:Pp) (h:vR U a b d e=some r):
  aY Tryz.prog 32 #[vS (a),vI (b),vI (d),vI (e)] [] (λx:Unit=>Value.agg #[vS (r.1),vI (r.2.1),vI (r.2.2.1),vI (r.2.2.2.1),vI (r.2.2.2.2.1),vI (r.2.2.2.2.2)]) (λx l=>l) (λ_ l=>l):=by
 refine aY.of Tryz.func32 Z Tryz.ntmps32 Z λc=>?_;unfold vR at h;refine aU<|aG (aL.alloc (cs:=vD3) Z Z) Z λf=>aM<|aU<|aA Z<|aA Z<|aA Z<|aA Z ?_;refine aC (Y.bld5 (r:=Value.agg #[vS (a),vI (1:Int),vI (0:Int),vI (b),vI (d),vI (e)]) Z Z Z Z Z (by intro w;simp[Instr.build,Instr.fill,eL,dU,dC,eM,eN,dV,f_])) Z ?_;refine bQ 0 (vs:=[vS (a),vI (1:Int),vI (0:Int),vI (b),vI (d),vI (e)]) Z Z Z Z Z Z<|aM<|aS ?_;cases h;exact iI () Z Z (RV.cell 0 Z Z Z Z) .nil aF.nil
def yJ (U:Nat) (a:ByteArray):Option ((ByteArray×Int×Int×Int×Int×Int)):=
 some ((a,(3:Int),(0:Int),(0:Int),(0:Int),(0:Int)))
theorem acq:aT Tryz.prog 84:=Tryz.call84
theorem HT (U:Nat) {a:ByteArray} (r:Pp) (h:yJ U a=some r):
  aY Tryz.prog 84 #[vS (a)] [] (λx:Unit=>Value.agg #[vS (r.1),vI (r.2.1),vI (r.2.2.1),vI (r.2.2.2.1),vI (r.2.2.2.2.1),vI (r.2.2.2.2.2)]) (λx l=>l) (λ_ l=>l):=by
 refine aY.of Tryz.func84 Z Tryz.ntmps84 Z λc=>?_;unfold yJ at h;refine aU<|aG (aL.alloc (cs:=vD3) Z Z) Z λb=>aM<|aU<|aA Z ?_;refine aC (BD (r:=Value.agg #[vS (a),vI (3:Int),vI (0:Int),vI (0:Int),vI (0:Int),vI (0:Int)]) Z Z (by intro w;simp[Instr.build,Instr.fill,eL,dU,dC,eM,eN,dV,f_])) Z ?_;refine bQ 0 (vs:=[vS (a),vI (3:Int),vI (0:Int),vI (0:Int),vI (0:Int),vI (0:Int)]) Z Z Z Z Z Z<|aM<|aS ?_;cases h;exact iI () Z Z (RV.cell 0 Z Z Z Z) .nil aF.nil
def FJ (U:Nat)  : Option X_:=
 Option.bind (vR U (ByteArray.mk #[100]) (0:Int) (1:Int) (0:Int)) λa=>(Option.bind (yJ U (ByteArray.mk #[112])) λb=>(some ([(a.1,a.2.1,a.2.2.1,a.2.2.2.1,a.2.2.2.2.1,a.2.2.2.2.2),(b.1,b.2.1,b.2.2.1,b.2.2.2.1,b.2.2.2.2.1,b.2.2.2.2.2)])))
theorem acf:aT Tryz.prog 55:=Tryz.call55
theorem MP (U:Nat)  (r:Ya) (h:FJ U  = some r):
  aY Tryz.prog 55 #[] [] (λx:Value=>x) (λx l=>Ar gZ x r::l) (λ_ l=>l):=by
 refine aY.of Tryz.func55 Z Tryz.ntmps55 Z λc=>?_;refine aU<|aD Z<|aM<|aU<|fN h λa f h=>aG (aL.callQ VC (Dx U  a f) Z .nil) Z λi=>fN h λb g h=>aG (aL.callQ acq (HT U  b g) Z .nil) Z λj=>aG (bZ (e:=gZ) ([((a.1,a.2.1,a.2.2.1,a.2.2.2.1,a.2.2.2.2.1,a.2.2.2.2.2)),((b.1,b.2.1,b.2.2.1,b.2.2.2.1,b.2.2.2.2.1,b.2.2.2.2.2))]) [(0,Value.agg #[vS (a.1),vI (a.2.1),vI (a.2.2.1),vI (a.2.2.2.1),vI (a.2.2.2.2.1),vI (a.2.2.2.2.2)]),(1,Value.agg #[vS (b.1),vI (b.2.1),vI (b.2.2.1),vI (b.2.2.2.1),vI (b.2.2.2.2.1),vI (b.2.2.2.2.2)])] Z Z Z Z (Jn (vS (a.1)) (vI (a.2.1)) (vI (a.2.2.1)) (vI (a.2.2.2.1)) (vI (a.2.2.2.2.1)) (vI (a.2.2.2.2.2)) (vS (b.1)) (vI (b.2.1)) (vI (b.2.2.1)) (vI (b.2.2.2.1)) (vI (b.2.2.2.2.1)) (vI (b.2.2.2.2.2))) Z Z Z) Z λd=>aD Z<|aM<|aS ?_;cases h;exact iI (d) Z Z (RV.tmp Z) (aZ.refl _) aF.nil
def gC (U:Nat) (a:CM) (d:Int):Option sH:=
 Option.bind (mH U ((a.1,a.2.1,a.2.2.1,a.2.2.2.1,a.2.2.2.2.1,a.2.2.2.2.2)) d) λb=>(Option.bind (mJ U ((a.1,a.2.1,a.2.2.1,a.2.2.2.1,a.2.2.2.2.1,a.2.2.2.2.2)) ((b.1,b.2))) λc=>(some ((c.1,c.2))))
theorem afd:aT Tryz.prog 7:=Tryz.call7
theorem Bu (U:Nat) {a:CM} {o:Int} (d:Value)  (e:Value)  (f:Value) (r:DD) (h:gC U a o=some r):
  aY Tryz.prog 7 #[Value.agg #[vI (a.1),d,e,f,vB (a.2.2.2.2.1),vB (a.2.2.2.2.2)],vI (o)] [Sl bP d a.2.1,Sl bP e a.2.2.1,Sl bP f a.2.2.2.1] (λx:Value×Value×List Value=>Value.agg #[x.1,x.2.1]) (λx l=>Ar b_ x.1 r.1::Ar cO.raw x.2.1 x.2.2::kN bT x.2.2 r.2::l) (λ_ l=>l):=by
 refine aY.of Tryz.func7 Z Tryz.ntmps7 Z λc=>?_;refine aU<|aG (aL.box (cs:=[vI (a.1),d,e,f,vB (a.2.2.2.2.1),vB (a.2.2.2.2.2)]) Z Z) Z λp=>aG (aL.alloc (cs:=[lC,lC]) Z Z) Z λq=>aM<|aJ ?_;refine JR.start [0,0,0,6,15,31] 4 mixedOrders (by decide +kernel) ?_;refine JR.open (by exact rfl) ?_;refine pG 1 Z<|pG 1 Z<|bG Z<|fN h λn t h=>JR.loud Z Z Z (aL.callQ VB (Al U d e f n t) Z (qB [0,1,2] Z)) Z (λb=>(uZ [([4],[])] Z)) λb=>bN 4 Z Z<|fN h λs u h=>aG (ED (Min:=[Ar b_ b.1 n.1,Ar cO.raw b.2.1 b.2.2,kN bT b.2.2 n.2]) (Mr:=[bV q [lC,lC] 29,bV p [vI (a.1),d,e,f,vB (a.2.2.2.2.1),vB (a.2.2.2.2.2)] 24]) abX (EX U d e f b.1 b.2.1 b.2.2 s u) Z (aZ.refl _) (qB [0,1,2] Z) (λ_ _=>rfl)) Z λk=>bX (Know.one ((bD (aE.res 0 Z) cZ))) λm=>bX (Know.one (aE.sl (bS (i:=1) (j:=2) Z Z bR))) λg=>bQ 3 (vs:=[k.1,k.2.1]) Z Z (kR m (kR g Z)) Z Z Z<|aM<|aS ?_;cases h;exact iI (k.1,k.2.1,k.2.2) Z Z (RV.cell 3 Z Z Z Z) (aZ.ix [0,1,2] Z Z) aF.nil
def xX (U:Nat) (a:cQ):Option (Int):=
 ck (0<=(List.length a.1:Int)) (some (wI .u32 ((BG .u32 (1:Int) (List.length a.1:Int)) - (1:Int))))
theorem acp:aT Tryz.prog 80:=Tryz.call80
theorem Pf (U:Nat) {a:cQ} (b:Value)  (d:Value)  (f:mZ) (r:Int) (h:xX U a=some r):
  aY Tryz.prog 80 #[Value.agg #[b,d]] [Sl bP b a.1,S2 bA d f a.2] (λx:Unit=>vU (r)) (λx l=>l) (λ_ l=>l):=by
 refine aY.of Tryz.func80 Z Tryz.ntmps80 Z λc=>?_;refine aU<|aG (aL.box (cs:=[b,d]) Z Z) Z λg=>aD Z<|aM<|aU<|bU Z<|dL 0 Z<|kP (aE.fact 0 Z) Z<|dH h λe h=>aC (NN Z Z e) Z<|aC (nW Z Z) Z<|aD Z<|aM<|aS ?_;cases h;exact vZ Z
def yE  (a:Unit):Option (Int):=
 some (-1:Int)
def tO (c:cQ) (d:Int) (e:Int) (a:Int) (b:(Int)->Option (Int)):Option (Int):=
 if a<(List.length (at' c.2 d):Int)then(ck (0<=a∧a<(List.length (at' c.2 d):Int)) (if((at' (at' c.2 d) a).1)=e then(some (a))else(b (wI .i64 (a+(1:Int))))))else(yE  (()))
def rA (U:Nat) (b:cQ) (a:Int) (c:Int):Option (Int):=
 ck (0<=a∧a<(List.length b.2:Int)) (bK (tO b a c) U (0:Int))
theorem acx:aT Tryz.prog 92:=Tryz.call92
theorem JS (U:Nat) {a:cQ} {b:Int} {i:Int} (j:Value)  (k:Value)  (o:mZ) (r:Int) (h:rA U a b i=some r):
  aY Tryz.prog 92 #[Value.agg #[j,k],vI (b),vI (i)] [Sl bP j a.1,S2 bA k o a.2] (λx:Unit=>vI (r)) (λx l=>l) (λ_ l=>l):=by
 refine aY.of Tryz.func92 Z Tryz.ntmps92 Z λc=>?_;refine aU<|aG (aL.box (cs:=[j,k]) Z Z) Z λq=>aD Z<|aM<|aJ<|fF (λg=>yE  g=some r) (λg m=>[]) (λg m=>[]) ?_ ?_
 ·refine aU<|bU Z<|dL 0 Z<|aA Z<|dH h λe h=>aC (cL Z Z (aE.fact 1 Z) Z Z e) Z<|aC (cT Z (aE.fact 1 Z) Z Z e) Z<|aC (jC Z (aE.el (aE.fact 1 Z) e.1 e.2) Z) Z<|aA Z<|aM<|aV<|e_ (tO a b i) (λd n=>[(2,vI (i)),(13,(at' o b).1),(14,vI (List.length (at' a.2 b):Int)),(15,vI (d))]) (λd n=>[]) (0:Int) () h SF .nil ?_;intro s d n h;refine aU<|cX Z<|aM<|aJ ?_;refine fC h Z (λh=>?_) λh=>?_
  ·refine cV<|aJ<|aV<|aU<|aA Z<|dH h λf h=>aC (bB Z Z (aE.el (aE.fact 1 Z) e.1 e.2) Z Z f) Z<|aC (jG (cs:=[vI ((at' (at' a.2 b) d).1),vI ((at' (at' a.2 b) d).2)]) Z (aE.el (aE.fact 1 Z) e.1 e.2) bR Z Z Z Z f) Z<|aG (aL.alloc (cs:=UG) Z Z) Z λp=>aD Z<|bQ 0 (vs:=[vI ((at' (at' a.2 b) d).1),vI ((at' (at' a.2 b) d).2)]) Z Z Z Z Z Z<|aM<|aU<|bU Z<|dL 0 Z<|aA Z<|cN Z<|aM ?_;refine fC h Z (λh=>?_) λh=>?_
   ·refine aU<|aA Z<|aD Z<|aM<|aS<|bM<|aI<|aI<|bM<|aI ?_;cases h;exact vZ Z
   refine dX<|o_<|aR<|cP Z<|aA Z<|aM ?_;exact nM (wI .i64 (d+(1:Int))) () h SF .nil (aF.refl _ _)
  refine gK ?_;exact jP () (()) h SF Z
 intro g m h;unfold yE at h;refine aU<|aD Z<|aM<|aS ?_;cases h;exact lI Z
end Go.Proofs.YtmdlcmbplnhdnaaGreatDoor
namespace Go.Proofs.YtmdlcmbplnhdnaaGreatDoor
open Go.Sx
theorem BU {R:Type} {step:Int->(Int->Option R)->Option R} {K:Option R} {bad:R} (N:Nat) (p:Nat->Prop)
  (r:∀(k:Nat) c,k<N->p k->step k c=c ((k:Int)+1)) (i:∀(k:Nat) c,k<N->¬p k->step k c=some bad) (j:∀c,step N c=K):
  ∀(b:Nat),N<b->((∀k,k<N->p k)->bK step b 0=K)∧(¬(∀k,k<N->p k)->bK step b 0=some bad):=by
 intro b q;have s:∀(d a b:Nat),a+d=N->d<b->((∀k,a<=k->k<N->p k)->bK step b (a:Int)=K)∧(¬(∀k,a<=k->k<N->p k)->bK step b (a:Int)=some bad):=by
  intro d
  induction d with
  |zero=>
   intro a b v q;obtain rfl:a=N:=by omega
   cases b with
   |zero=>omega
   |succ f=>exact⟨λ_=>j _,λh=>absurd (λk m g=>by omega) h⟩
  | succ d ih =>
   intro a b v q;cases b with
   |zero=>omega
   | succ f =>
    obtain⟨t,u⟩:=ih (a+1) f (by omega) (by omega);have e:((a+1:Nat):Int)=(a:Int)+1:=by omega
    rw[e]at t u;by_cases n:p a
    ·have w:bK step (f+1) (a:Int)=bK step f ((a:Int)+1):=r a _ (by omega) n;rw[w];refine⟨λh=>t λk m g=>h k (by omega) g,λh=>u λo=>h λk m g=> ?_⟩
     by_cases l:k=a
     ·subst l;exact n
     ·exact o k (by omega) g
    ·exact⟨λh=>absurd (h a (Nat.le_refl _) (by omega)) n,λ_=>i a _ (by omega) n⟩
 obtain⟨m,g⟩:=s N 0 b (by omega) q;exact⟨λh=>m λk _ l=>h k l,λh=>g λo=>h λk l=>o k (by omega) l⟩
abbrev GR:=List Int×gE
theorem xZ (a:Nat) (v c d:Int):uG a v c d=some (decide (c<=v∧v<=d)):=by
 unfold uG Di;by_cases h:c<=v
 ·rw[if_pos h];congr 1;exact decide_eq_decide.2 ⟨λb=>⟨h,b⟩,λb=>b.2⟩
 ·rw[if_neg h,decide_eq_false (λb=>h b.1)]
abbrev row (g:GR) (v:Nat):eW:=at' g.2 (v:Int)
abbrev Ki (g:GR) (v:Nat):Int:=at' g.1 (v:Int)
abbrev fY (l:eW) (i:Nat):fH:=at' l (i:Int)
def light (g:GR):Prop:=g.1.length<=30∧g.2.length<=30∧∀v,v<g.2.length->(row g v).length<=30
def Gs (l:eW) (v n i:Nat):Prop:=(0<=(fY l i).1∧(fY l i).1<=(n:Int) - 1)∧(fY l i).1≠v∧(1<=(fY l i).2∧(fY l i).2<=15)∧∀k,k<i->(fY l k).1≠(fY l i).1
def pL (l:eW) (v n:Nat):Prop:=∀i,i<l.length->Gs l v n i
theorem AX (l:eW) (v n:Nat) (o:l.length<=30) (p:n<=30):(pL l v n->pV 1000 l v n=some true)∧(¬pL l v n->pV 1000 l v n=some false):=by
 unfold pV;have a:∀(i:Nat) (b:Int->Option Bool),i<l.length->((∀k,k<i->(fY l k).1≠(fY l i).1)->bK (jN l i b) 1000 0=b ((i:Int)+1))∧(¬(∀k,k<i->(fY l k).1≠(fY l i).1)->bK (jN l i b) 1000 0=some false):=by
  intro i b h;refine BU i _ (λk d m c=> ?_) (λk d m c=> ?_) (λd=> ?_) 1000 (by omega)
  ·unfold jN;rw[if_pos (by omega),cC (by omega),cC (by omega),if_neg c,wr (by omega) (by omega)]
  ·unfold jN;rw[if_pos (by omega),cC (by omega),cC (by omega),if_pos (Decidable.not_not.1 c)]
  ·unfold jN yT;rw[if_neg (by omega),wr (by omega) (by omega)]
 refine BU l.length (Gs l v n) (λi b h c=> ?_) (λi b h c=> ?_) (λb=> ?_) 1000 (by omega)
 ·obtain⟨e,f,g,j⟩:=c;unfold oH lN;rw[if_pos (by omega),cC (by omega),wr (x:=(n:Int) - 1) (by omega) (by omega),xZ,decide_eq_true e,bF Z,if_neg (by simp),cC (by omega),if_neg f,cC (by omega),xZ,decide_eq_true g,bF Z,if_neg (by simp)];exact(a i b h).1 j
 ·unfold oH lN;rw[if_pos (by omega),cC (by omega),wr (x:=(n:Int) - 1) (by omega) (by omega),xZ];by_cases e:0<=(fY l i).1∧(fY l i).1<=(n:Int) - 1
  ·rw[decide_eq_true e,bF Z,if_neg (by simp),cC (by omega)];by_cases f:(fY l i).1=v
   ·rw[if_pos f];rfl
   ·rw[if_neg f,cC (by omega),xZ];by_cases g:1<=(fY l i).2∧(fY l i).2<=15
    ·rw[decide_eq_true g,bF Z,if_neg (by simp)];exact(a i b h).2 λj=>c ⟨e,f,g,j⟩
    ·rw[decide_eq_false g];rfl
  ·rw[decide_eq_false e];rfl
 ·unfold oH yS;rw[if_neg (by omega)]
def zW (l:eW) (u:Int):Int:=match l.findIdx? (λx=>decide (x.1=u))with
 |some i=>i
 |none=> -1
theorem Hz {l:eW} {u:Int} (i:Nat) (b:i<l.length) (d:(fY l i).1=u) (c:∀k,k<i->(fY l k).1≠u):zW l u=i:=by
 have:l.findIdx? (λx=>decide (x.1=u))=some i:=by
  rw[List.findIdx?_eq_some_iff_getElem];have e:∀k (a:k<l.length),fY l k=l[k]:=λk a=>by rw[fY,fT,List.getD_eq_getElem?_getD,List.getElem?_eq_getElem a];rfl
  refine⟨b,by rw[<-e i b];simpa using d,λk a=> ?_⟩
  have:=c k a;rw[e k (by omega)]at this;simpa using this
 rw[zW,this]
theorem OC {l:eW} {u:Int} (b:∀k,k<l.length->(fY l k).1≠u):zW l u = -1:=by
 have:l.findIdx? (λx=>decide (x.1=u))=none:=by
  rw[List.findIdx?_eq_none_iff];intro x c;obtain⟨k,a,rfl⟩:=List.getElem_of_mem c;have:=b k a;rw[fY,fT,List.getD_eq_getElem?_getD,List.getElem?_eq_getElem a]at this;simpa using this
 rw[zW,this]
theorem B_ (l:eW) (u:Int):(∃i,i<l.length∧(fY l i).1=u∧(∀k,k<i->(fY l k).1≠u)∧zW l u=i)∨((∀k,k<l.length->(fY l k).1≠u)∧zW l u = -1):=by
 by_cases h:∀k,k<l.length->(fY l k).1≠u
 ·exact .inr ⟨h,OC h⟩
 ·left;have f:∃k,k<l.length∧(fY l k).1=u:=by
   apply Classical.byContradiction;intro o;exact h λk g e=>o ⟨k,g,e⟩
  obtain⟨k,g,n⟩:=f;have:∀m,(∃k,k<=m∧k<l.length∧(fY l k).1=u)->∃i,i<l.length∧(fY l i).1=u∧∀k,k<i->(fY l k).1≠u:=by
   intro m
   induction m with
   |zero=>rintro⟨k,d,a,b⟩;exact⟨k,a,b,λj p=>by omega⟩
   |succ m q=>
    rintro⟨k,d,a,b⟩;by_cases c:∃j,j<=m∧j<l.length∧(fY l j).1=u
    ·exact q c
    ·exact⟨k,a,b,λj p e=>c ⟨j,by omega,by omega,e⟩⟩
  obtain⟨i,d,a,b⟩:=this k ⟨k,Nat.le_refl _,g,n⟩;exact⟨i,d,a,b,Hz i d a b⟩
theorem Ra (g:GR) (v:Nat) (u:Int) (m:v<g.2.length) (l:(row g v).length<=30):BW 1000 g v u=some (zW (row g v) u):=by
 unfold BW;rcases B_ (row g v) u with⟨i,j,h,c,b⟩|⟨c,b⟩
 ·rw[b];refine zD (λx:Int=>∃k:Nat,x=k∧k<=i) (λx=>31 - x.toNat) ?_ 1000 _ ⟨0,rfl,by omega⟩ (by omega);rintro x d ⟨k,rfl,f⟩ a;unfold A_;rw[cC (by omega),if_pos (show(k:Int)<((row g v).length:Int) by omega),cC (by omega),cC (show 0<=(k:Int)∧(k:Int)<((row g v).length:Int) by omega)];by_cases e:k=i
  ·subst e;exact if_pos h
  ·rw[if_neg (c k (by omega)),wr (by omega) (by omega)];exact a _ ⟨k+1,by omega,by omega⟩ (by omega)
 ·rw[b];refine zD (λx:Int=>∃k:Nat,x=k∧k<=(row g v).length) (λx=>31 - x.toNat) ?_ 1000 _ ⟨0,rfl,by omega⟩ (by omega);rintro x d ⟨k,rfl,f⟩ a;unfold A_;rw[cC (by omega)];by_cases e:k<(row g v).length
  ·rw[if_pos (show(k:Int)<((row g v).length:Int) by omega),cC (by omega),cC (show 0<=(k:Int)∧(k:Int)<((row g v).length:Int) by omega),if_neg (c k e),wr (by omega) (by omega)];exact a _ ⟨k+1,by omega,by omega⟩ (by omega)
  ·rw[if_neg (show¬(k:Int)<((row g v).length:Int) by omega)];rfl
theorem FG {X R:Type} {step:X->(X->Option R)->Option R} {K:X->Option R} {bad:R} (N:Nat) (p:Nat->Prop) (I:Nat->X->Prop)
  (t:∀(k:Nat) x g,k<N->I k x->p k->∃c,I (k+1) c∧step x g=g c) (j:∀(k:Nat) x g,k<N->I k x->¬p k->step x g=some bad) (l:∀x g,I N x->step x g=K x):
  ∀(b:Nat) (x:X),I 0 x->N<b->((∀k,k<N->p k)->∃c,I N c∧bK step b x=K c)∧(¬(∀k,k<N->p k)->bK step b x=some bad):=by
 intro b x e s;have v:∀(d a b:Nat) (x:X),a+d=N->d<b->I a x->((∀k,a<=k->k<N->p k)->∃c,I N c∧bK step b x=K c)∧(¬(∀k,a<=k->k<N->p k)->bK step b x=some bad):=by
  intro d
  induction d with
  |zero=>
   intro a b x w s e;obtain rfl:a=N:=by omega
   cases b with
   |zero=>omega
   |succ f=>exact⟨λ_=>⟨x,e,l _ _ e⟩,λh=>absurd (λk n i=>by omega) h⟩
  | succ d ih =>
   intro a b x w s e;cases b with
   |zero=>omega
   | succ f =>
    by_cases o:p a
    ·obtain⟨c,r,u⟩:=t a x (bK step f) (by omega) e o;have u:bK step (f+1) x=bK step f c:=u;obtain⟨y,z⟩:=ih (a+1) f c (by omega) (by omega) r;rw[u];refine⟨λh=>y λk n i=>h k (by omega) i,λh=>z λq=>h λk n i=> ?_⟩
     by_cases m:k=a
     ·subst m;exact o
     ·exact q k (by omega) i
    ·exact⟨λh=>absurd (h a (Nat.le_refl _) (by omega)) o,λ_=>j a x _ (by omega) e o⟩
 obtain⟨n,i⟩:=v N 0 b x (by omega) s e;exact⟨λh=>n λk _ m=>h k m,λh=>i λq=>h λk m=>q k (by omega) m⟩
def Cq (g:GR) (v i:Nat):Prop:=∃j,j<(at' g.2 (fY (row g v) i).1).length∧(fY (at' g.2 (fY (row g v) i).1) j).1=v∧(fY (at' g.2 (fY (row g v) i).1) j).2=(fY (row g v) i).2
structure P_ (g:GR) (v:Nat):Prop where
 id:0<=Ki g v∧Ki g v<=255
 deg:(row g v).length<g.2.length
 links:pL (row g v) v g.2.length
 ids:∀k,k<v->Ki g k≠Ki g v
structure VG (g:GR):Prop where
 n1:1<=g.2.length
 n24:g.2.length<=24
 len:g.1.length=g.2.length
 node:∀v,v<g.2.length->P_ g v
 sym:∀v,v<g.2.length->∀i,i<(row g v).length->Cq g v i
theorem OH (g:GR) (N:light g):(VG g->xI 1000 g=some true)∧(¬VG g->xI 1000 g=some false):=by
 obtain⟨S,H,t⟩:=N;unfold xI;rw[xZ,bF Z];by_cases z:1<=g.2.length∧g.2.length<=24
 rotate_left
 ·rw[decide_eq_false (by omega)];exact⟨λh=>absurd ⟨h.n1,h.n24⟩ z,λ_=>rfl⟩
 rw[decide_eq_true (by omega),if_neg (by simp)];by_cases I:g.1.length=g.2.length
 rotate_left
 ·rw[decide_eq_true (by omega)];exact⟨λh=>absurd h.len I,λ_=>rfl⟩
 rw[decide_eq_false (by omega)];unfold Ad;rw[if_neg (by simp)];have o:∀(v:Nat) (b:Int->Option Bool),v<g.2.length->((∀k,k<v->Ki g k≠Ki g v)->bK (pC g v b) 1000 0=b ((v:Int)+1))∧(¬(∀k,k<v->Ki g k≠Ki g v)->bK (pC g v b) 1000 0=some false):=by
  intro v b d;refine BU v _ (λk a C c=> ?_) (λk a C c=> ?_) (λa=> ?_) 1000 (by omega)
  ·unfold pC;rw[if_pos (by omega),cC (by omega),cC (by omega),if_neg c,wr (by omega) (by omega)]
  ·unfold pC;rw[if_pos (by omega),cC (by omega),cC (by omega),if_pos (Decidable.not_not.1 c)]
  ·unfold pC Dl;rw[if_neg (by omega),wr (by omega) (by omega)]
 have l:=BU (step:=rJ 1000 g) (K:=Ae 1000 g ()) (bad:=false) g.2.length (P_ g) (λv b d c=> ?_) (λv b d c=> ?_) (λb=> ?_) 1000 (by omega)
 rotate_left
 ·unfold rJ rF;rw[if_pos (by omega),cC (by omega),xZ,decide_eq_true c.id,bF Z,if_neg (by simp),cC (by omega),if_neg (show¬((g.2.length:Int)<=((row g v).length:Int))from by have:=c.deg;omega),cC (by omega),(AX (row g v) v g.2.length (t v d) H).1 c.links,bF Z,if_neg (by simp)];exact(o v b d).1 c.ids
 ·unfold rJ rF;rw[if_pos (by omega),cC (by omega),xZ];by_cases x:0<=Ki g v∧Ki g v<=255
  rotate_left
  ·rw[decide_eq_false x];rfl
  rw[decide_eq_true x,bF Z,if_neg (by simp),cC (by omega)];by_cases J:(row g v).length<g.2.length
  rotate_left
  ·rw[if_pos (show(g.2.length:Int)<=((row g v).length:Int) by omega)];rfl
  rw[if_neg (show¬(g.2.length:Int)<=((row g v).length:Int) by omega),cC (by omega)];by_cases y:pL (row g v) v g.2.length
  rotate_left
  ·rw[(AX (row g v) v g.2.length (t v d) H).2 y];rfl
  rw[(AX (row g v) v g.2.length (t v d) H).1 y,bF Z,if_neg (by simp)];exact(o v b d).2 λL=>c ⟨x,J,y,L⟩
 ·unfold rJ;rw[if_neg (by omega)]
 by_cases q:∀v,v<g.2.length->P_ g v
 rotate_left
 ·exact⟨λh=>absurd h.node q,λ_=>l.2 q⟩
 rw[l.1 q];unfold Ae;have f:∀(v:Nat) (b:Int->Option Bool),v<g.2.length->((∀i,i<(row g v).length->Cq g v i)->bK (mP 1000 g v b) 1000 0=b ((v:Int)+1))∧(¬(∀i,i<(row g v).length->Cq g v i)->bK (mP 1000 g v b) 1000 0=some false):=by
  intro v b d;have P:=t v d;have n:∀(i:Nat) a,i<(row g v).length->(Cq g v i->mP 1000 g v b i a=a ((i:Int)+1))∧(¬Cq g v i->mP 1000 g v b i a=some false):=by
   intro i a r;unfold mP;rw[cC (by omega),if_pos (show(i:Int)<((row g v).length:Int) by omega),cC (by omega),cC (show 0<=(i:Int)∧(i:Int)<((row g v).length:Int) by omega)];have R:=((q v d).links i r).1;obtain⟨u,G⟩:∃u:Nat,(fY (row g v) i).1=u:=⟨(fY (row g v) i).1.toNat,by omega⟩
   have p:u<g.2.length:=by omega
   unfold Cq;rw[show(at' (at' g.2 (v:Int)) (i:Int))=fY (row g v) i from rfl,G,Ra g u v p (t u p),bF Z];have F:=(q u p).links;rcases B_ (row g u) v with⟨j,w,m,B,A⟩|⟨M,A⟩
   ·rw[A,if_neg (by omega),cC (by omega),cC (show 0<=(j:Int)∧(j:Int)<((at' g.2 (u:Int)).length:Int)from⟨by omega,by have:j<(row g u).length:=w;exact_mod_cast this⟩)];unfold Af;constructor
    ·rintro⟨k,C,s,E⟩;have D:k=j:=by
      rcases Nat.lt_trichotomy k j with h|h|h
      ·exact absurd s (B k h)
      ·exact h
      ·exact absurd (m.trans s.symm) ((F k C).2.2.2 j h)
     subst D;rw[if_neg (by rw[decide_eq_false];simp;exact λh=>h E),wr (by omega) (by omega)]
    ·intro h;rw[if_pos];exact decide_eq_true λQ=>h ⟨j,w,m,Q⟩
   ·rw[A,if_pos (by decide)];exact⟨fun⟨j,w,m,_⟩=>absurd m (M j w),λ_=>rfl⟩
  refine BU (row g v).length _ (λi a r c=>(n i a r).1 c) (λi a r c=>(n i a r).2 c) (λa=> ?_) 1000 (by omega);unfold mP Dk;rw[cC (by omega),if_neg (show¬(((row g v).length:Nat):Int)<((row g v).length:Int) by omega),wr (by omega) (by omega)]
 have e:=BU (step:=rI 1000 g) (K:=some true) (bad:=false) g.2.length (λv=>∀i,i<(row g v).length->Cq g v i) (λv b d c=> ?_) (λv b d c=> ?_) (λb=> ?_) 1000 (by omega)
 ·exact⟨λh=>e.1 h.sym,λh=>e.2 λO=>h ⟨z.1,z.2,I,q,O⟩⟩
 ·unfold rI;rw[if_pos (by omega)];exact(f v b d).1 c
 ·unfold rI;rw[if_pos (by omega)];exact(f v b d).2 c
 ·unfold rI Dj;rw[if_neg (by omega)]
theorem sL {a:Type} [Inhabited a] (l:List a) (i k:Nat) (y:a) (b:i<l.length):at' (l.set i y) (k:Int)=if k=i then y else at' l (k:Int):=by
 rw[fT,fT,List.getD_eq_getElem?_getD,List.getD_eq_getElem?_getD,List.getElem?_set];by_cases h:i=k
 ·rw[if_pos h,if_pos h.symm,if_pos (by omega)];rfl
 ·rw[if_neg h,if_neg (Ne.symm h)]
def UM (l:aP) (k:Nat):Prop:=(0<=at' l (k:Int)∧at' l (k:Int)<=255)∧∀j,j<k->at' l (j:Int)≠at' l (k:Int)
theorem tI (l:aP) (C:l.length<=30):((∀k,k<l.length->UM l k)->iZ 1000 l=some true)∧(¬(∀k,k<l.length->UM l k)->iZ 1000 l=some false):=by
 unfold iZ;have i:=FG (step:=fO l) (K:=λ_=>some true) (bad:=false) l.length (UM l) (λk x=>x.1=(k:Int)∧x.2.length=256∧∀z:Nat,z<256->(at' x.2 (z:Int)=true↔∃j,j<k∧at' l (j:Int)=(z:Int))) ?_ ?_ ?_ 1000 ((0:Int),(List.replicate 256 false)) ⟨rfl,List.length_replicate ..,λz c=> ?_⟩ (by omega)
 ·exact⟨λh=>by obtain⟨x,_,b⟩:=i.1 h;exact b,i.2⟩
 ·rintro k ⟨t,m⟩ q w ⟨b,a,f⟩ ⟨D,v⟩;dsimp only at b a f;subst b;obtain⟨z,c⟩:∃z:Nat,at' l (k:Int)=z:=⟨(at' l (k:Int)).toNat,by omega⟩
  have p:z<256:=by omega
  have o:¬at' m (z:Int)=true:=by
   rw[f z p];rintro⟨j,e,d⟩;exact v j e (d.trans c.symm)
  refine⟨((k:Int)+1,m.set z true),⟨by simp,by simp[a],λy B=> ?_⟩,?_⟩
  ·dsimp only;rw[sL _ _ _ _ (by omega)];by_cases g:y=z
   ·subst g;rw[if_pos Z];exact⟨λ_=>⟨k,by omega,c⟩,λ_=>rfl⟩
   ·rw[if_neg g,f y B];constructor
    ·rintro⟨j,e,d⟩;exact⟨j,by omega,d⟩
    ·rintro⟨j,e,d⟩;by_cases n:j=k
     ·subst n;rw[c]at d;omega
     ·exact⟨j,by omega,d⟩
  ·unfold fO iF;dsimp only;rw[if_pos (by omega),cC (by omega),c,if_neg (by omega),if_neg (by omega),cC ⟨by omega,a⟩,if_neg o,cC ⟨by omega,a⟩,wr (by omega) (by omega)];rfl
 ·rintro k ⟨t,m⟩ q w ⟨b,a,f⟩ A;dsimp only at b a f;subst b;unfold fO iF;dsimp only;rw[if_pos (by omega),cC (by omega)];by_cases r:at' l (k:Int)<0
  ·rw[if_pos r,if_pos Z]
  rw[if_neg r];by_cases s:255<at' l (k:Int)
  ·rw[if_pos s,if_pos Z]
  rw[if_neg s];obtain⟨z,c⟩:∃z:Nat,at' l (k:Int)=z:=⟨(at' l (k:Int)).toNat,by omega⟩
  rw[c,cC ⟨by omega,a⟩,if_pos];rw[f z (by omega)];apply Classical.byContradiction;intro u;exact A ⟨by omega,λj e d=>u ⟨j,e,d.trans c⟩⟩
 ·rintro⟨t,m⟩ q ⟨b,_,_⟩;dsimp only at b;subst b;unfold fO mX;dsimp only;rw[if_neg (by omega)]
 ·rw[show at' (List.replicate 256 false) (z:Int)=false by rw[fT,List.getD_eq_getElem?_getD,List.getElem?_replicate,if_pos c];rfl];exact⟨λh=>(by cases h),fun⟨j,e,_⟩=>(by omega)⟩
theorem Ui {d e:Type} [DecidableEq d] (k c:d) (v:e):∀l:List (d×e),lV c (BZ k v l)=if c=k then some v else lV c l
 | []=>by simp only[BZ,lV]
 | x :: xs => by
  simp only[BZ];by_cases h:k=x.1
  ·rw[if_pos h];simp only[lV];by_cases a:c=k
   ·rw[if_pos a,if_pos a]
   ·rw[if_neg a,if_neg a,if_neg (λb=>a (b.trans h.symm))]
  ·rw[if_neg h];simp only[lV];by_cases a:c=x.1
   ·rw[if_pos a,if_neg (λb=>h (b.symm.trans a)),if_pos a]
   ·rw[if_neg a,Ui k c v xs];by_cases b:c=k
    ·rw[if_pos b,if_pos b]
    ·rw[if_neg b,if_neg b,if_neg a]
theorem Om {a b:Type} [DecidableEq a] {k:a} {v:b} {z:a×b} {l:List (a×b)} (c:lV k l=none):z∈BZ k v l↔z=(k,v)∨z∈l:=by
 rw[GT k v l c];simp[or_comm]
theorem GQ {a c:Type} [DecidableEq a] {k:a}:∀{l:List (a×c)},(∀v,(k,v)∉l)->lV k l=none
 | [],_=>rfl
 |x::xs,h=>by
  simp only[lV];rw[if_neg (λe=>h x.2 (by rw[e];exact List.mem_cons_self ..))];exact GQ λv b=>h v (List.mem_cons_of_mem _ b)
theorem tA {b c:Type} [DecidableEq b] {k:b} {v:c}:∀{l:List (b×c)},lV k l=none->(k,v)∉l
 | [],_=>by simp
 | x :: xs, h => by
  simp only[lV]at h;by_cases e:k=x.1
  ·rw[if_pos e]at h;cases h
  ·rw[if_neg e]at h;intro d;rcases List.mem_cons.1 d with a|a
   ·exact e (by rw[<-a])
   ·exact tA h a
theorem Br {a b:Type} [DecidableEq a] {k:a} {v:b}:∀{l:List (a×b)},lV k l=some v->(k,v)∈l
 |x::xs,h=>by
  simp only[lV]at h;by_cases e:k=x.1
  ·rw[if_pos e]at h;cases h;rw[e];exact List.mem_cons_self ..
  ·rw[if_neg e]at h;exact List.mem_cons_of_mem _ (Br h)
theorem JG {a b:Type} (p:a×b->Prop) [DecidablePred p]:∀l:List (a×b),Kk (λd x=>if p d then some false else x) (some true) l=some (decide (∀z∈l,¬p z))
 | []=>by simp[Kk]
 |x::xs=>by
  show(if p x then some false else Kk _ (some true) xs)=_;rw[JG p xs];by_cases h:p x
  ·rw[if_pos h];congr 1;symm;exact decide_eq_false λc=>c x (List.mem_cons_self ..) h
  ·rw[if_neg h];congr 1;apply decide_eq_decide.2;simp[h]
def Nx (c:gE) (v i:Nat) (z:(Int×Int)×Int):Prop:=∃a b:Nat,(a<v∨(a=v∧b<i))∧b<(at' c (a:Int)).length∧z=(((a:Int),(fY (at' c (a:Int)) b).1),(fY (at' c (a:Int)) b).2)
def Ky (a:gE):Prop:=(∀v,v<a.length->pL (at' a (v:Int)) v a.length)∧∀v,v<a.length->∀i,i<(at' a (v:Int)).length->Cq ([],a) v i
theorem F_ (c:gE) (hn:c.length<=30) (hd:∀v,v<c.length->(at' c (v:Int)).length<=30):(Ky c->fW 1000 c=some true)∧(¬Ky c->fW 1000 c=some false):=by
 unfold fW;have s:∀(v:Nat) (m:List ((Int×Int)×Int)) p,v<c.length->(∀z,z∈m↔Nx c v 0 z)->
   (pL (at' c (v:Int)) v c.length->∃X,(∀z,z∈X↔Nx c (v+1) 0 z)∧bK (cD c ((v:Int),m) p) 1000 ((0:Int),m)=p ((v:Int)+1,X))∧
   (¬pL (at' c (v:Int)) v c.length->bK (cD c ((v:Int),m) p) 1000 ((0:Int),m)=some false):=by
  intro v m p F hm;have af:=hd v F;have R:=FG (step:=cD c ((v:Int),m) p) (K:=λx=>p ((v:Int)+1,x.2)) (bad:=false) (at' c (v:Int)).length (Gs (at' c (v:Int)) v c.length) (λi x=>x.1=(i:Int)∧∀z,z∈x.2↔Nx c v i z) ?_ ?_ ?_ 1000 ((0:Int),m) ⟨rfl,hm⟩ (by omega)
  ·refine⟨λh=> ?_,λh=>R.2 h⟩
   obtain⟨x,⟨ah,ad⟩,f⟩:=R.1 h;refine⟨x.2,λz=>(ad z).trans ⟨?_,?_⟩,f⟩
   ·rintro⟨a,b,y,e,l⟩;exact⟨a,b,by omega,e,l⟩
   ·rintro⟨a,b,y,e,l⟩;refine⟨a,b,?_,e,l⟩
    by_cases W:a=v
    ·subst W;exact .inr ⟨rfl,e⟩
    ·omega
  ·rintro i ⟨H,g⟩ I M ⟨f,d⟩ ⟨p1,p2,p3,p4⟩;dsimp only at f d;subst f;have q:lV (((v:Int),(fY (at' c (v:Int)) i).1)) g=none:=by
    apply GQ;intro w hw;obtain⟨a,b,y,e,l⟩:=(d _).1 hw;simp only[Prod.mk.injEq]at l;obtain⟨⟨C,A⟩,_⟩:=l;have:a=v:=by omega
    subst this;have hb:b<i:=by omega
    exact p4 b hb A.symm
   refine⟨((i:Int)+1,BZ (((v:Int),(fY (at' c (v:Int)) i).1)) (fY (at' c (v:Int)) i).2 g),⟨by simp,λz=> ?_⟩,?_⟩
   ·dsimp only;rw[Om q,d];constructor
    ·rintro(rfl|⟨a,b,y,e,l⟩)
     ·exact⟨v,i,.inr ⟨rfl,by omega⟩,M,rfl⟩
     ·exact⟨a,b,by omega,e,l⟩
    ·rintro⟨a,b,y,e,l⟩;by_cases J:a=v∧b=i
     ·left;rw[l,J.1,J.2]
     ·right;exact⟨a,b,by omega,e,l⟩
   ·replace p1:0<=(at' (at' c (v:Int)) (i:Int)).1∧(at' (at' c (v:Int)) (i:Int)).1<=(c.length:Int) - 1:=p1;replace p3:1<=(at' (at' c (v:Int)) (i:Int)).2∧(at' (at' c (v:Int)) (i:Int)).2<=15:=p3;unfold cD gM iQ;dsimp only;rw[if_pos (by omega),cC (by omega),if_neg (by omega),if_neg (by omega),if_neg (by rw[decide_eq_false p2];simp),if_neg (by omega),if_neg (by rw[decide_eq_false (by omega)];simp),q,if_neg (by simp),wr (by omega) (by omega)]
  ·rintro i ⟨H,g⟩ I M ⟨f,d⟩ P;dsimp only at f d;subst f;unfold cD gM iQ;dsimp only;rw[if_pos (by omega),cC (by omega)];by_cases y:(fY (at' c (v:Int)) i).1<0
   ·rw[if_pos y,if_pos Z]
   rw[if_neg y];by_cases e:(c.length:Int)<=(fY (at' c (v:Int)) i).1
   ·rw[if_pos e,if_pos Z]
   rw[if_neg e];by_cases l:(fY (at' c (v:Int)) i).1=v
   ·rw[if_pos (decide_eq_true l)]
   rw[if_neg (by rw[decide_eq_false l];simp)];by_cases C:(fY (at' c (v:Int)) i).2<1
   ·rw[if_pos C,if_pos Z]
   rw[if_neg C];by_cases A:15<(fY (at' c (v:Int)) i).2
   ·rw[if_pos (decide_eq_true A)]
   rw[if_neg (by rw[decide_eq_false A];simp)];have:∃k,k<i∧(fY (at' c (v:Int)) k).1=(fY (at' c (v:Int)) i).1:=by
    apply Classical.byContradiction;intro hc;exact P ⟨by omega,l,by omega,λk N L=>hc ⟨k,N,L⟩⟩
   obtain⟨k,N,L⟩:=this;have n:=(d _).2 ⟨v,k,.inr ⟨rfl,N⟩,by omega,rfl⟩;rw[if_pos];rw[<-L];cases q:lV (((v:Int),(fY (at' c (v:Int)) k).1)) g with
   |some w=>rfl
   | none => exact absurd n (by
     intro n;exact tA q n)
  ·rintro⟨H,g⟩ I ⟨f,d⟩;dsimp only at f d;subst f;unfold cD mB;dsimp only;rw[if_neg (by omega),wr (by omega) (by omega)]
 have t:=FG (step:=cM 1000 c) (K:=λx=>iP x.2) (bad:=false) c.length (λv=>pL (at' c (v:Int)) v c.length) (λv x=>x.1=(v:Int)∧∀z,z∈x.2↔Nx c v 0 z) ?_ ?_ ?_ 1000 ((0:Int),[]) ⟨rfl,λz=>⟨λh=>(by cases h),fun⟨a,b,y,_⟩=>(by omega)⟩⟩ (by omega)
 rotate_left
 ·rintro v ⟨H,g⟩ p F ⟨f,d⟩ P;dsimp only at f d;subst f;obtain⟨X,y,e⟩:=(s v g p F d).1 P;refine⟨((v:Int)+1,X),⟨by simp,y⟩,?_⟩
  ·unfold cM;dsimp only;rw[if_pos (by omega),cC (by omega)];exact e
 ·rintro v ⟨H,g⟩ p F ⟨f,d⟩ P;dsimp only at f d;subst f;unfold cM;dsimp only;rw[if_pos (by omega),cC (by omega)];exact(s v g p F d).2 P
 ·rintro⟨H,g⟩ p ⟨f,d⟩;dsimp only at f d;subst f;unfold cM;dsimp only;rw[if_neg (by omega)]
 by_cases D:∀v,v<c.length->pL (at' c (v:Int)) v c.length
 rotate_left
 ·exact⟨λh=>absurd h.1 D,λ_=>t.2 D⟩
 obtain⟨⟨H,g⟩,⟨f,d⟩,L⟩:=t.1 D;rw[L];dsimp only at d ⊢;have N:iP g=some (decide (∀z∈g,¬(Option.getD (lV (z.1.2,z.1.1) g) (0:Int))≠z.2)):=JG (λz:(Int×Int)×Int=>(Option.getD (lV (z.1.2,z.1.1) g) (0:Int))≠z.2) g;rw[N];have E:(∀z∈g,¬(Option.getD (lV (z.1.2,z.1.1) g) (0:Int))≠z.2)↔∀v,v<c.length->∀i,i<(at' c (v:Int)).length->Cq ([],c) v i:=by
  constructor
  ·intro h v F i M;have hw:=(D v F i M).2.2.1;have n:=(d (((v:Int),(fY (at' c (v:Int)) i).1),(fY (at' c (v:Int)) i).2)).2 ⟨v,i,.inl F,M,rfl⟩;have e:=Decidable.not_not.1 (h _ n);dsimp only at e;cases q:lV ((fY (at' c (v:Int)) i).1,(v:Int)) g with
   |none=>rw[q]at e;simp only[Option.getD]at e;omega
   | some w =>
    rw[q]at e;simp only[Option.getD]at e;obtain⟨a,b,l,C,A⟩:=(d _).1 (Br q);simp only[Prod.mk.injEq]at A;obtain⟨⟨T,U⟩,h8⟩:=A;refine⟨b,?_,?_,?_⟩
    ·show b<(at' c (fY (at' c (v:Int)) i).1).length;rw[T];exact C
    ·show(fY (at' c (fY (at' c (v:Int)) i).1) b).1=v;rw[T];exact U.symm
    ·show(fY (at' c (fY (at' c (v:Int)) i).1) b).2=(fY (at' c (v:Int)) i).2;rw[T,<-h8];exact e
  ·intro h z hz ac;obtain⟨a,b,l,C,rfl⟩:=(d z).1 hz;have W:a<c.length:=by omega
   apply ac;obtain⟨j,r,o,B⟩:=h a W b C;have hu:=(D a W b C).1;obtain⟨u,Q⟩:∃u:Nat,(fY (at' c (a:Int)) b).1=u:=⟨(fY (at' c (a:Int)) b).1.toNat,by omega⟩
   replace r:j<(at' c (fY (at' c (a:Int)) b).1).length:=r;replace o:(fY (at' c (fY (at' c (a:Int)) b).1) j).1=a:=o;replace B:(fY (at' c (fY (at' c (a:Int)) b).1) j).2=(fY (at' c (a:Int)) b).2:=B;rw[Q]at r o B;have G:u<c.length:=by omega
   dsimp only;rw[Q,<-B];have n:=(d (((u:Int),(fY (at' c (u:Int)) j).1),(fY (at' c (u:Int)) j).2)).2 ⟨u,j,.inl G,r,rfl⟩;rw[o]at n;cases q:lV ((u:Int),(a:Int)) g with
   |none=>exact absurd n (tA q)
   | some w =>
    obtain⟨Y,S,ae,aa,A⟩:=(d _).1 (Br q);simp only[Prod.mk.injEq]at A;obtain⟨⟨T,U⟩,h8⟩:=A;have:Y=u:=by omega
    subst this;have ab:S=j:=by
     rcases Nat.lt_trichotomy S j with O|O|O
     ·exact absurd (U.symm.trans o.symm) ((D Y G j r).2.2.2 S O)
     ·exact O
     ·exact absurd (o.trans U) ((D Y G S aa).2.2.2 j O)
    subst ab;exact h8
 by_cases V:∀v,v<c.length->∀i,i<(at' c (v:Int)).length->Cq ([],c) v i
 ·rw[decide_eq_true (E.2 V)];exact⟨λ_=>rfl,λh=>absurd ⟨D,V⟩ h⟩
 ·rw[decide_eq_false (λh=>V (E.1 h))];exact⟨λh=>absurd h.2 V,λ_=>rfl⟩
theorem JK:∀(N:Nat) (f:Nat->Nat) (k:Nat),(∀i,i<k->f i<N)->(∀i j,i<j->j<k->f i≠f j)->k<=N
 |0,f,k,h,_=>by
  cases k with
  |zero=>omega
  |succ k=>exact absurd (h 0 (by omega)) (by omega)
 | N + 1, f, k, h, hd => by
  by_cases b:∃a,a<k∧f a=N
  ·obtain⟨a,g,l⟩:=b;have:=JK N (λi=>if i<a then f i else f (i+1)) (k - 1) (λi c=>by
    split
    ·have:=h i (by omega);have:=hd i a (by omega) g;omega
    ·have:=h (i+1) (by omega);have:=hd a (i+1) (by omega) (by omega);omega) (λi j d m=>by
    split<;>split
    ·exact hd i j d (by omega)
    ·exact hd i (j+1) (by omega) (by omega)
    ·omega
    ·exact hd (i+1) (j+1) (by omega) (by omega))
   omega
  ·have:=JK N f k (λi c=>by
    have:=h i c;have:f i≠N:=λe=>b ⟨i,c,e⟩;omega) hd
   omega
theorem Qs {l:eW} {v n:Nat} (b:v<n) (h:pL l v n):l.length<n:=by
 have:=JK n (λi=>if i=l.length then v else(fY l i).1.toNat) (l.length+1) (λi e=>by
  split
  ·exact b
  ·have:=(h i (by omega)).1;omega) (λi j a f=>by
  rw[if_neg (by omega)];have c:=(h i (by omega)).1;split
  ·have:=(h i (by omega)).2.1;omega
  ·have d:=(h j (by omega)).1;have:=(h j (by omega)).2.2.2 i a;omega)
 omega
theorem Py (g:GR) (j:light g):(VG g->gQ 1000 g=some true)∧(¬VG g->gQ 1000 g=some false):=by
 obtain⟨e,f,i⟩:=j;unfold gQ oY oZ;by_cases l:g.1.length<1
 ·rw[if_pos (by omega)];exact⟨λh=>by have:=h.n1;have:=h.len;omega,λ_=>rfl⟩
 rw[if_neg (by omega)];by_cases m:24<g.1.length
 ·rw[if_pos (by omega)];exact⟨λh=>by have:=h.n24;have:=h.len;omega,λ_=>rfl⟩
 rw[if_neg (by omega)];by_cases d:g.1.length=g.2.length
 rotate_left
 ·rw[decide_eq_true (by omega)];exact⟨λh=>absurd h.len d,λ_=>rfl⟩
 rw[decide_eq_false (by omega),if_neg (by simp)];by_cases b:∀k,k<g.1.length->UM g.1 k
 rotate_left
 ·rw[(tI g.1 e).2 b,bF Z];exact⟨λh=>absurd (λk n=>⟨(h.node k (by omega)).id,(h.node k (by omega)).ids⟩) b,λ_=>rfl⟩
 rw[(tI g.1 e).1 b,bF Z,if_pos Z];by_cases a:Ky g.2
 ·rw[(F_ g.2 f i).1 a];exact⟨λ_=>rfl,λh=>absurd ⟨by omega,by omega,d,λv c=>⟨(b v (by omega)).1,Qs c (a.1 v c),a.1 v c,(b v (by omega)).2⟩,a.2⟩ h⟩
 ·rw[(F_ g.2 f i).2 a];exact⟨λh=>absurd ⟨λv c=>(h.node v c).links,h.sym⟩ a,λ_=>rfl⟩
theorem VG.light {g:GR} (h:VG g):light g:=⟨by have:=h.n24;have:=h.len;omega,by have:=h.n24;omega,λv a=>by have:=(h.node v a).deg;have:=h.n24;omega⟩
abbrev D (d:aP) (v:Nat):Int:=at' d (v:Int)
def Kg (g:GR) (v u:Nat):Prop:=∃i,i<(row g v).length∧(fY (row g v) i).1=(u:Int)
theorem VG.port {g:GR} (h:VG g) {v i:Nat} (b:v<g.2.length) (a:i<(row g v).length):∃u:Nat,u<g.2.length∧(fY (row g v) i).1=(u:Int)∧Kg g v u:=by
 have c:=((h.node v b).links i a).1;exact⟨(fY (row g v) i).1.toNat,by omega,by omega,i,a,by omega⟩
theorem VG.back {g:GR} (h:VG g) {v u:Nat} (f:v<g.2.length) (c:Kg g v u):Kg g u v:=by
 obtain⟨i,d,e⟩:=c;obtain⟨j,b,a,_⟩:=h.sym v f i d;rw[e]at b a;exact⟨j,b,a⟩
theorem VG.adj_lt {g:GR} (h:VG g) {v u:Nat} (c:v<g.2.length) (a:Kg g v u):u<g.2.length:=by
 obtain⟨i,b,d⟩:=a;have:=((h.node v c).links i b).1;omega
def Fz (d:aP):Nat:=d.countP λx=>decide (x<0)
structure PQ (g:GR) (s:Nat) (d:aP):Prop where
 len:d.length=g.2.length
 lo:∀v,v<g.2.length -> -1<=D d v
 zero:∀v,v<g.2.length->(D d v=0↔v=s)
 near:∀v,v<g.2.length->0<D d v->∃u,u<g.2.length∧Kg g v u∧D d u=D d v - 1
 hi:∀v,v<g.2.length->D d v+(Fz d:Int)<=(g.2.length:Int)
structure Qu (g:GR) (q d:aP) (b:Int) (done:Nat->Prop):Prop where
 mem:∀y∈q,∃v,v<g.2.length∧y=((v:Nat):Int)∧0<=D d v
 top:∀v,v<g.2.length->D d v<=b
 sort:q.Pairwise λa c=>at' d a<=at' d c
 done:∀v,v<g.2.length->0<=D d v->((v:Nat):Int)∉q->done v->∀u,u<g.2.length->Kg g v u->0<=D d u∧D d u<=D d v+1
theorem DK {d:aP} {v:Nat} (h:v<d.length):D d v=d[v]:=by
 rw[D,fT,List.getD_eq_getElem?_getD,List.getElem?_eq_getElem h];rfl
theorem Jb {d:aP} {u:Nat} {x:Int} (a:u<d.length) (b:D d u<0) (e:0<=x):Fz (d.set u x)+1=Fz d:=by
 unfold Fz;rw[List.countP_set a];have c:0<d.countP λx=>decide (x<0):=by
  rw[List.countP_pos_iff];exact⟨d[u],List.getElem_mem a,by rw[<-DK a];simpa using b⟩
 rw[DK a]at b;rw[if_pos (by simpa using b),if_neg (by simp;omega)];omega
theorem assign {g:GR} {s:Nat} {q d:aP} {b:Int} {done:Nat->Prop} (E:VG g) (l:PQ g s d) {x u:Nat} (m:Qu g q d (D d x+1) done) (B:x<g.2.length) (K:0<=D d x) (J:u<g.2.length) (t:D d u<0) (F:Kg g x u):
  PQ g s (d.set u (D d x+1))∧Qu g (q++[(u:Int)]) (d.set u (D d x+1)) (D d x+1) done:=by
 have o:=l.len;have e:∀v,D (d.set u (D d x+1)) v=if v=u then D d x+1 else D d v:=λv=>sL _ _ _ _ (by omega);have G:=Jb (x:=D d x+1) (by omega:u<d.length) t (by omega);refine⟨⟨by simp[o],λv f=> ?_,λv f=> ?_,λv f=> ?_,λv f=> ?_⟩,⟨λy j=> ?_,λv f=> ?_,?_,λv f k n H w A i=> ?_⟩⟩
 ·rw[e];split
  ·omega
  ·exact l.lo v f
 ·rw[e];split
  ·rename_i h;subst h;have:=(l.zero v f)
   constructor
   ·intro;omega
   ·intro h;have:=this.2 h;omega
  ·exact l.zero v f
 ·rw[e];split
  ·rename_i h;subst h;intro _;refine⟨x,B,E.back B F,?_⟩
   rw[e,if_neg (by intro h;subst h;omega)];omega
  ·intro k;obtain⟨w,A,i,I⟩:=l.near v f k;refine⟨w,A,i,?_⟩
   rw[e,if_neg (by intro h;subst h;omega)];exact I
 ·rw[e];split
  ·have:=l.hi x B;omega
  ·have:=l.hi v f;omega
 ·rcases List.mem_append.1 j with j|j
  ·obtain⟨v,f,rfl,k⟩:=m.mem y j;refine⟨v,f,rfl,?_⟩
   rw[e];split<;>omega
  ·simp only[List.mem_singleton]at j;refine⟨u,J,j,?_⟩
   rw[e,if_pos Z];omega
 ·rw[e];split
  ·omega
  ·exact m.top v f
 ·rw[List.pairwise_append];have n:∀y∈q,at' (d.set u (D d x+1)) y=at' d y:=by
   intro y j;obtain⟨v,f,rfl,k⟩:=m.mem y j;have:=e v;rw[if_neg (by intro h;subst h;omega)]at this;exact this
  refine⟨m.sort.imp_of_mem λ{a c} h1 r h=> ?_,List.pairwise_singleton ..,λy j z C=> ?_⟩
  ·rw[n a h1,n c r];exact h
  ·simp only[List.mem_singleton]at C;subst C;rw[n y j];have r:=e u;rw[if_pos Z]at r;obtain⟨v,f,rfl,k⟩:=m.mem y j;have:=m.top v f;show D d v<=D (d.set u (D d x+1)) u;omega
 ·have p:v≠u:=by
   rintro rfl;exact n (by simp)
  rw[e,if_neg p]at k;rw[e v,if_neg p];have:=m.done v f k (λh=>n (List.mem_append_left _ h)) H w A i;rw[e w,if_neg (by rintro rfl;omega)];exact this
theorem MH {g:GR} (E:VG g) {s x:Nat} (I:x<g.2.length) (a e:aP) (R:List Int×aP->Option aP) (r:aP->Prop)
  (o:PQ g s e) (ae:0<=D e x) (m:Qu g a e (D e x+1) (λv=>v≠x)) (hm:a.length+Fz e<=g.2.length)
  (K:∀q d,PQ g s d->D d x=D e x->Qu g q d (D d x+1) (λ_=>True)->q.length+Fz d=a.length+Fz e->(∀y∈q,D e x<=at' d y)->OK r (R (q,d)))
  (l:∀y∈a,D e x<=at' e y):
  OK r (bK (qA g ((x:Int)::a,e) R) 1000 ((0:Int),a,e)):=by
 have U:=(E.node x I).deg;have aa:=E.n24;refine xE (λz:Int×List Int×aP=>∃k:Nat,z.1=k∧k<=(row g x).length∧PQ g s z.2.2∧D z.2.2 x=D e x∧Qu g z.2.1 z.2.2 (D e x+1) (λv=>v≠x)∧z.2.1.length+Fz z.2.2=a.length+Fz e∧(∀i,i<k->∀u:Nat,(fY (row g x) i).1=u->0<=D z.2.2 u)∧(∀y∈z.2.1,D e x<=at' z.2.2 y)) (λz=>31 - z.1.toNat) ?_ 1000 _ ⟨0,rfl,by omega,o,rfl,m,rfl,λi L=>by omega,l⟩ (by simp);rintro⟨z1,q,d⟩ X ⟨k,W,hk,o,f,m,A,F,l⟩ p;dsimp only at W o f m A F l;subst W;have V:=o.len;have e0:at' ((x:Int)::a) 0=(x:Int):=rfl;unfold qA p_;dsimp only;rw[e0];by_cases N:k<(row g x).length
 ·rw[if_pos (show(k:Int)<((row g x).length:Int) by omega),cC (show 0<=(k:Int)∧(k:Int)<((row g x).length:Int) by omega)];obtain⟨u,G,O,j⟩:=E.port I N;rw[show at' (at' g.2 (x:Int)) (k:Int)=fY (row g x) k from rfl,O,cC (by omega)];have ac:=o.hi x I;by_cases c:at' d (u:Int)<0
  ·have J:Qu g q d (D d x+1) (λv=>v≠x):=by rw[f];exact m
   obtain⟨Y,c2⟩:=assign (b:=0) E o J I (by omega) G c j;have ab:=Jb (x:=D d x+1) (by omega:u<d.length) c (by omega);have n:∀v,D (d.set u (D d x+1)) v=if v=u then D d x+1 else D d v:=λv=>sL _ _ _ _ (by omega);have Q:x≠u:=by rintro rfl;have:D d x<0:=c;omega
   rw[if_pos c,cC (by omega),cC (by omega),cC (by simp only[List.length_singleton];omega),wr (x:=(k:Int)+1) (by omega) (by omega),wr (x:=at' d (x:Int)+1) (by show -9223372036854775808<=D d x+1;omega) (by show D d x+1<=_;omega)];refine p _ ⟨k+1,by simp,by omega,Y,?_,?_,?_,?_,?_⟩ (by dsimp only;omega)
   ·show D (d.set u (D d x+1)) x=_;rw[n,if_neg Q];exact f
   ·rw[<-f];exact c2
   ·show(q++[(u:Int)]).length+Fz (d.set u (D d x+1))=_;simp only[List.length_append,List.length_singleton];omega
   ·intro i L w P;show 0<=D (d.set u (D d x+1)) w;rw[n];split
    ·omega
    ·by_cases t:i=k
     ·subst t;omega
     ·exact F i (by omega) w P
   ·intro y B;show D e x<=at' (d.set u (D d x+1)) y;rcases List.mem_append.1 B with B|B
    ·have h1:=l y B;obtain⟨v,H,rfl,S⟩:=m.mem y B;have T:=n v;rw[if_neg (by intro h;subst h;have:D d v<0:=c;omega)]at T;rw[show at' (d.set u (D d x+1)) (v:Int)=D d v from T];exact h1
    ·simp only[List.mem_singleton]at B;subst B;rw[show at' (d.set u (D d x+1)) (u:Int)=D d x+1 from(n u).trans (if_pos Z)];omega
  ·rw[if_neg c,wr (by omega) (by omega)];refine p _ ⟨k+1,by simp,by omega,o,f,m,A,?_,l⟩ (by dsimp only;omega);intro i L w P;by_cases t:i=k
   ·subst t;have:w=u:=by omega
    subst this;show 0<=at' d (w:Int);omega
   ·exact F i (by omega) w P
 ·rw[if_neg (show¬(k:Int)<((row g x).length:Int) by omega)];have ad:k=(row g x).length:=by omega
  refine K q d o f ⟨m.mem,λv H=>by rw[f];exact m.top v H,m.sort,λv H S hq _ u G j=> ?_⟩ A l;by_cases C:v=x
  ·subst C;obtain⟨i,L,M⟩:=j;exact⟨F i (by omega) u M,by rw[f];exact m.top u G⟩
  ·exact m.done v H S hq C u G j
structure qK (g:GR) (s:Nat) (d:aP):Prop where
 len:d.length=g.2.length
 lo:∀v,v<g.2.length -> -1<=D d v
 zero:∀v,v<g.2.length->(D d v=0↔v=s)
 near:∀v,v<g.2.length->0<D d v->∃u,u<g.2.length∧Kg g v u∧D d u=D d v - 1
 next:∀v,v<g.2.length->0<=D d v->∀u,u<g.2.length->Kg g v u->0<=D d u∧D d u<=D d v+1
 hi:∀v,v<g.2.length->D d v<=(g.2.length:Int)
theorem OY {g:GR} (t:VG g) {s:Nat} (f:aP) (k:aP) (b:PQ g s f) (c:Qu g k f (match k with|[]=>1000|y::_=>at' f y+1) (λ_=>True)) (j:k.length+Fz f<=g.2.length):
  OK (qK g s) (bK (nD 1000 g) 1000 (k,f)):=by
 have G:=t.n24;refine xE (λz:List Int×aP=>PQ g s z.2∧Qu g z.1 z.2 (match z.1 with|[]=>1000|y::_=>at' z.2 y+1) (λ_=>True)∧z.1.length+Fz z.2<=g.2.length) (λz=>z.1.length+Fz z.2) ?_ 1000 _ ⟨b,c,j⟩ (by dsimp only;omega);rintro⟨q,d⟩ C ⟨b,c,j⟩ m;dsimp only at b c j;unfold nD tP;dsimp only;cases q with
 |nil=>
  rw[if_neg (by simp)];exact⟨d,rfl,b.len,b.lo,b.zero,b.near,λv e l u n a=>c.done v e l (by simp) trivial u n a,λv e=>by have:=b.hi v e;omega⟩
 | cons y rest =>
  obtain⟨x,A,rfl,p⟩:=c.mem y (List.mem_cons_self ..);have F:at' ((x:Int)::rest) 0=(x:Int):=rfl;rw[if_pos (by simp only[List.length_cons];omega),cC (by simp only[List.length_cons];omega),cC (by simp only[List.length_cons];omega),F,cC (by omega)];have w:=List.pairwise_cons.1 c.sort;simp only[List.length_cons]at j;refine MH t A rest d C _ b p ⟨λz I=>c.mem z (List.mem_cons_of_mem _ I),c.top,w.2,λv e l H o u n a=>c.done v e l (λh=> ?_) trivial u n a⟩ (by omega) (λB E r J i K D=> ?_) w.1
  ·rcases List.mem_cons.1 h with h|h
   ·exact o (by omega)
   ·exact H h
  ·refine m (B,E) ⟨r,⟨i.mem,λv e=> ?_,i.sort,i.done⟩,by dsimp only;omega⟩ (by simp only[List.length_cons];omega);dsimp only;have L:=i.top v e;cases B with
   |nil=>
    dsimp only;have:=r.hi x A;omega
   |cons z M=>
    dsimp only;have:=D z (List.mem_cons_self ..);omega
theorem Hf {g:GR} (l:VG g) {s:Nat} (m:s<g.2.length):OK (qK g s) (jI 1000 g (s:Int)):=by
 have q:=l.n24;unfold jI;rw[cC (by omega)];refine xE (λz:kG=>∃k:Nat,z.1=k∧k<=g.2.length∧z.2.length=g.2.length∧∀v,v<k->D z.2 v = -1) (λz=>31 - z.1.toNat) ?_ 1000 _ ⟨0,rfl,by omega,by simp,λv c=>by omega⟩ (by simp);rintro⟨C,d⟩ A ⟨k,o,B,e,j⟩ i;dsimp only at o e j;subst o;unfold yG;simp only[List.length_replicate,Int.toNat_natCast];by_cases u:k<g.2.length
 ·rw[if_pos (by omega),cC (by omega),wr (by omega) (by omega)];refine i _ ⟨k+1,by simp,by omega,by simp[e],λv c=> ?_⟩ (by dsimp only;omega);show at' (d.set k (-1)) (v:Int) = -1;rw[sL _ _ _ _ (by omega)];split
  ·rfl
  ·exact j v (by omega)
 ·rw[if_neg (by omega)];unfold yF;rw[cC (by omega)];have b:∀v,v<g.2.length->D d v = -1:=λv c=>j v (by omega);have a:∀v,D (d.set s 0) v=if v=s then 0 else D d v:=λv=>sL _ _ _ _ (by omega);have t:=Jb (x:=0) (by omega:s<d.length) (by rw[b s m];omega) (by omega);have r:Fz d<=d.length:=List.countP_le_length ..;refine OY l _ _ ⟨by simp[e],λv c=> ?_,λv c=> ?_,λv c=> ?_,λv c=> ?_⟩ ⟨λy n=> ?_,λv c=> ?_,List.pairwise_singleton ..,λv c p w=> ?_⟩ ?_
  ·rw[Int.toNat_natCast,a];split
   ·omega
   ·rw[b v c];omega
  ·rw[Int.toNat_natCast,a];split
   ·rename_i h;exact⟨λ_=>h,λ_=>rfl⟩
   ·rename_i h;rw[b v c];exact⟨λf=>by omega,λf=>absurd f h⟩
  ·rw[Int.toNat_natCast,a];split
   ·omega
   ·rw[b v c];omega
  ·rw[Int.toNat_natCast,a];split
   ·omega
   ·rw[b v c];omega
  ·simp only[List.mem_singleton]at n;refine⟨s,m,n,?_⟩
   rw[Int.toNat_natCast,a,if_pos Z];omega
  ·rw[Int.toNat_natCast];have f:at' (d.set s 0) (s:Int)=0:=(a s).trans (if_pos Z);show D (d.set s 0) v<=at' (d.set s 0) (s:Int)+1;rw[f,a];split
   ·omega
   ·rw[b v c];omega
  ·rw[Int.toNat_natCast,a,if_neg (by rintro rfl;exact w (by simp)),b v c]at p;omega
  ·rw[Int.toNat_natCast];simp only[List.length_singleton];omega
theorem Mh {g:GR} (a:VG g) {s:Nat} (e:s<g.2.length):OK (qK g s) (nT 1000 g (s:Int)):=by
 unfold nT mA;rw[(Py g a.light).1 a,bF Z,if_neg (by simp),if_neg (by omega),decide_eq_false (by omega),if_neg (by simp)];obtain⟨d,c,b⟩:=Hf a e;rw[c];exact⟨d,rfl,b⟩
def wQ (g:GR) (s:Nat):Nat->Nat->Prop
 |0,v=>v=s∧s<g.2.length
 |k+1,v=>∃u,wQ g s k u∧Kg g u v
theorem wQ.lt {g:GR} (a:VG g) {s:Nat}:∀{k v:Nat},wQ g s k v->v<g.2.length
 |0,_,h=>by obtain⟨rfl,h⟩:=h;exact h
 |_+1,_,h=>by obtain⟨u,b,c⟩:=h;exact a.adj_lt (wQ.lt a b) c
theorem wQ.trans {g:GR} {s t:Nat} {k:Nat} (h:wQ g s k t):∀{m v:Nat},wQ g t m v->wQ g s (k+m) v
 |0,_,h2=>by obtain⟨rfl,_⟩:=h2;exact h
 |_+1,_,h2=>by obtain⟨u,a,b⟩:=h2;exact⟨u,wQ.trans h a,b⟩
theorem Fv {g:GR} (a:VG g) {s:Nat}:∀{k v:Nat},wQ g s k v->wQ g v k s
 |0,_,h=>by obtain⟨rfl,h⟩:=h;exact⟨rfl,h⟩
 |k+1,v,h=>by
  obtain⟨u,b,c⟩:=h;have d:=wQ.lt a b;have e:wQ g v 1 u:=⟨v,⟨rfl,a.adj_lt d c⟩,a.back d c⟩
  have:=wQ.trans e (Fv a b);rwa[Nat.add_comm]at this
theorem qK.le {g:GR} (a:VG g) {s:Nat} {d:aP} (h:qK g s d):∀{k v:Nat},wQ g s k v->0<=D d v∧D d v<=k
 |0,v,hw=>by
  obtain⟨rfl,i⟩:=hw;have:=(h.zero v i).2 Z;omega
 |k+1,v,hw=>by
  obtain⟨u,b,c⟩:=hw;have e:=wQ.lt a b;have f:=qK.le a h b;have j:=h.next u e f.1 v (a.adj_lt e c) c;omega
theorem Ku {g:GR} (b:VG g) {s:Nat} {d:aP} (h:qK g s d):∀(k v:Nat),v<g.2.length->D d v=k->wQ g s k v
 |0,v,hv,he=>by
  have:=(h.zero v hv).1 he;exact⟨this,by omega⟩
 |k+1,v,hv,he=>by
  obtain⟨u,c,a,e⟩:=h.near v hv (by omega);exact⟨u,Ku b h k u c (by omega),b.back hv a⟩
theorem qK.pos {g:GR} (a:VG g) {s:Nat} {d:aP} (h:qK g s d) {v:Nat} (b:v<g.2.length) (c:0<=D d v):wQ g s (D d v).toNat v:=
 Ku a h _ v b (by omega)
theorem Ob (d:aP) (h:d.length<=30):OK (λr:Int=> -1<=r∧(∀v,v<d.length->D d v<=r)∧(r = -1∨∃v,v<d.length∧D d v=r)) (rX 1000 d):=by
 unfold rX;refine xE (λz:fH=>∃k:Nat,z.2=k∧k<=d.length ∧ -1<=z.1∧(∀v,v<k->D d v<=z.1)∧(z.1 = -1∨∃v,v<k∧D d v=z.1)) (λz=>31 - z.2.toNat) ?_ 1000 _ ⟨0,rfl,by omega,by omega,λv b=>by omega,.inl Z⟩ (by simp);rintro⟨m,z⟩ n ⟨k,j,o,g,c,a⟩ e;dsimp only at j g c a;subst j;unfold AI AH;dsimp only;by_cases l:k<d.length
 ·rw[if_pos (by omega),cC (by omega),wr (by omega) (by omega)];refine e _ ⟨k+1,by simp,by omega,by dsimp only;omega,λv b=> ?_,?_⟩ (by dsimp only;omega)
  ·by_cases f:v=k
   ·subst f;show D d v<=max m (D d v);omega
   ·have:=c v (by omega);show D d v<=max m (D d k);omega
  ·by_cases p:m<=D d k
   ·exact .inr ⟨k,by omega,by show D d k=max m (D d k);omega⟩
   ·rcases a with a|⟨v,b,i⟩
    ·left;show max m (D d k) = -1;omega
    ·exact .inr ⟨v,by omega,by show D d v=max m (D d k);omega⟩
 ·rw[if_neg (by omega)];refine⟨m,rfl,g,λv b=>c v (by omega),?_⟩
  rcases a with a|⟨v,b,i⟩
  ·exact .inl a
  ·exact .inr ⟨v,by omega,i⟩
def LA (g:GR):Prop:=∀u v,u<g.2.length->v<g.2.length->∃k,wQ g u k v
theorem BK {g:GR} (a:VG g):(LA g->fV 1000 g=some true)∧(¬LA g->fV 1000 g=some false):=by
 have r:=a.n1;have n:=a.n24;unfold fV;obtain⟨d,o,e⟩:=Hf a (s:=0) (by omega);have j:=e.len;rw[(Py g a.light).1 a,bF Z,if_neg (by simp),show jI 1000 (g.1,g.2) 0=some d from o,bF Z];have c:=BU (step:=kK d) (K:=some true) (bad:=false) d.length (λv=>0<=D d v) (λk i f p=> ?_) (λk i f p=> ?_) (λi=> ?_) 1000 (by omega)
 ·have b:(∀v,v<d.length->0<=D d v)↔LA g:=by
   constructor
   ·intro h u v q l;exact⟨_,wQ.trans (Fv a (qK.pos a e q (h u (by omega)))) (qK.pos a e l (h v (by omega)))⟩
   ·intro h v l;obtain⟨k,f⟩:=h 0 v (by omega) (by omega);exact(qK.le a e f).1
  exact⟨λh=>c.1 (b.2 h),λh=>c.2 λm=>h (b.1 m)⟩
 ·unfold kK;rw[if_pos (by omega),cC (by omega),if_neg (show¬D d k<0 by omega),wr (by omega) (by omega)]
 ·unfold kK;rw[if_pos (by omega),cC (by omega),if_pos (show D d k<0 by omega)]
 ·unfold kK pO;rw[if_neg (by omega)]
def Ecc (g:GR) (s:Nat) (r:Int):Prop:=∃d,jI 1000 g (s:Int)=some d∧qK g s d∧(∀v,v<g.2.length->D d v<=r)∧∃v,v<g.2.length∧D d v=r
theorem Qy {g:GR} (e:VG g) {s:Nat} (i:s<g.2.length):∃d r,jI 1000 g (s:Int)=some d∧rX 1000 d=some r∧Ecc g s r:=by
 obtain⟨d,f,a⟩:=Hf e i;have h:=a.len;have j:=e.n24;obtain⟨r,l,o,b,c⟩:=Ob d (by omega);have n:=b s (by omega);have:=(a.zero s i).2 Z;refine⟨d,r,f,l,d,f,a,λv m=>b v (by omega),?_⟩
 rcases c with c|⟨v,m,k⟩
 ·omega
 ·exact⟨v,by omega,k⟩
theorem HK {g:GR} (a:VG g) (f:LA g) {s:Nat} (h:s<g.2.length):OK (Ecc g s) (q_ 1000 g (s:Int)):=by
 unfold q_ mY;rw[(BK a).1 f,bF Z,if_neg (by simp),if_neg (by omega),decide_eq_false (by omega),if_neg (by simp)];obtain⟨d,r,b,c,e⟩:=Qy a h;rw[b,bF Z,c,bF Z];exact⟨r,rfl,e⟩
theorem Uq (g:GR) (v:Nat) (u:Int) (m:v<g.2.length) (l:(row g v).length<=30):rA 1000 g v u=some (zW (row g v) u):=by
 unfold rA;rw[cC (by omega)];rcases B_ (row g v) u with⟨i,j,h,c,b⟩|⟨c,b⟩
 ·rw[b];refine zD (λx:Int=>∃k:Nat,x=k∧k<=i) (λx=>31 - x.toNat) ?_ 1000 _ ⟨0,rfl,by omega⟩ (by omega);rintro x d ⟨k,rfl,f⟩ a;unfold tO;rw[if_pos (show(k:Int)<((row g v).length:Int) by omega),cC (show 0<=(k:Int)∧(k:Int)<((row g v).length:Int) by omega)];by_cases e:k=i
  ·subst e;exact if_pos h
  ·rw[if_neg (c k (by omega)),wr (by omega) (by omega)];exact a _ ⟨k+1,by omega,by omega⟩ (by omega)
 ·rw[b];refine zD (λx:Int=>∃k:Nat,x=k∧k<=(row g v).length) (λx=>31 - x.toNat) ?_ 1000 _ ⟨0,rfl,by omega⟩ (by omega);rintro x d ⟨k,rfl,f⟩ a;unfold tO;by_cases e:k<(row g v).length
  ·rw[if_pos (show(k:Int)<((row g v).length:Int) by omega),cC (show 0<=(k:Int)∧(k:Int)<((row g v).length:Int) by omega),if_neg (c k e),wr (by omega) (by omega)];exact a _ ⟨k+1,by omega,by omega⟩ (by omega)
  ·rw[if_neg (show¬(k:Int)<((row g v).length:Int) by omega)];rfl
section
def aiG (f:Nat->Nat):Nat->Nat
 |0=>0
 |k+1=>aiG f k+f k
open Classical in
noncomputable def ind (p:Prop):Nat:=if p then 1 else 0
theorem Qi {g:GR} (a:VG g) {v:Nat} (d:v<g.2.length):¬Kg g v v:=by
 rintro⟨i,c,b⟩;exact((a.node v d).links i c).2.1 b
end
theorem Lw (a:Nat) (h:a<4294967296):IntKind.u32.wrap (a:Int)=a:=by rw[<-DF];exact if_pos ⟨by omega,by omega⟩
def Ns (x:Int):Nat:=(BitVec.ofInt 32 x).toNat
theorem IM (x:Int):Ns x<4294967296:=(BitVec.ofInt 32 x).isLt
theorem xB {a:Nat} (h:a<4294967296):Ns (a:Int)=a:=by
 unfold Ns;rw[BitVec.ofInt_natCast,BitVec.toNat_ofNat];exact Nat.mod_eq_of_lt h
theorem LW (x y:Int):dK .u32 x y=((Ns x &&& Ns y:Nat):Int):=by
 show IntKind.u32.wrap (((BitVec.ofInt 32 x &&& BitVec.ofInt 32 y).toNat:Nat):Int)=_;rw[BitVec.toNat_and];exact Lw _ (Nat.lt_of_le_of_lt Nat.and_le_left (IM x))
theorem abU (x y:Int):LX .u32 x y=((Ns x ||| Ns y:Nat):Int):=by
 show IntKind.u32.wrap (((BitVec.ofInt 32 x ||| BitVec.ofInt 32 y).toNat:Nat):Int)=_;rw[BitVec.toNat_or];exact Lw _ (Nat.or_lt_two_pow (n:=32) (IM x) (IM y))
theorem Vw (x y:Int):tH .u32 x y=0↔∀i,(Ns x).testBit i=true->(Ns y).testBit i=true:=by
 have e:tH .u32 x y=(((BitVec.ofInt 32 x &&& ~~~ BitVec.ofInt 32 y).toNat:Nat):Int):=Lw _ (BitVec.ofInt 32 x &&& ~~~ BitVec.ofInt 32 y).isLt;have b:∀i,(BitVec.ofInt 32 x &&& ~~~ BitVec.ofInt 32 y).toNat.testBit i=((Ns x).testBit i&&(decide (i<32) && !(Ns y).testBit i)):=by
  intro i;have:=BitVec.getLsbD_and (x:=BitVec.ofInt 32 x) (y:= ~~~ BitVec.ofInt 32 y) (i:=i);rw[BitVec.getLsbD_not]at this;exact this
 have d:∀i,(Ns x).testBit i=true->i<32:=by
  intro i a;apply Classical.byContradiction;intro f;rw[Nat.testBit_lt_two_pow (Nat.lt_of_lt_of_le (IM x) (Nat.pow_le_pow_right (n:=2) (by omega) (show 32<=i by omega)))]at a;cases a
 rw[e];constructor
 ·intro h i a;have c:(BitVec.ofInt 32 x &&& ~~~ BitVec.ofInt 32 y).toNat=0:=by omega
  have:=b i;rw[c,Nat.zero_testBit,a,decide_eq_true (d i a)]at this;simpa using this
 ·intro h;have:(BitVec.ofInt 32 x &&& ~~~ BitVec.ofInt 32 y).toNat=0:=by
   apply Nat.eq_of_testBit_eq;intro i;rw[b i,Nat.zero_testBit];cases a:(Ns x).testBit i with
   |false=>rfl
   |true=>rw[h i a];simp
  omega
theorem HB {k:Nat} (a:k<32):2^k<4294967296:=Nat.pow_lt_pow_right (n:=32) (by omega) a
theorem abb {k:Nat} (a:k<32):BG .u32 1 (k:Int)=((2^k:Nat):Int):=by
 show IntKind.u32.wrap (1*2^(min ((k:Int).toNat) 32))=_;rw[Int.toNat_natCast,Nat.min_eq_left (by omega),Int.one_mul,show(2:Int)^k=((2^k:Nat):Int) by simp];exact Lw _ (HB a)
theorem LY {a k:Nat} (b:k<32):qW .u32 (a:Int) (k:Int)=((a / 2^k:Nat):Int):=by
 show Int.fdiv (a:Int) (2^(min ((k:Int).toNat) 32))=_;rw[Int.toNat_natCast,Nat.min_eq_left (by omega),show(2:Int)^k=((2^k:Nat):Int) by simp,Int.fdiv_eq_ediv_of_nonneg _ (Int.natCast_nonneg _)];simp
theorem WK {a k:Nat} (d:k<32) (c:a<4294967296):dK .u32 (qW .u32 (a:Int) (k:Int)) 1=1↔a.testBit k=true:=by
 have b:Ns 1=1:=xB (a:=1) (by omega);rw[LY d,LW,xB (Nat.lt_of_le_of_lt (Nat.div_le_self _ _) c),b,Nat.and_one_is_mod,Nat.testBit_eq_decide_div_mod_eq,decide_eq_true_eq];omega
def IC (g:GR) (s:Nat):Prop:=(∀v,s.testBit v=true->v<g.2.length)∧∀v u,s.testBit v=true->s.testBit u=true->¬Kg g v u
theorem abQ {g:GR} (a:VG g):xX 1000 g=some ((2^g.2.length - 1:Nat):Int):=by
 have c:=a.n24;have d:=a.len;have e:=HB (show g.2.length<32 by omega);have b:1<=2^g.2.length:=Nat.one_le_two_pow;unfold xX;rw[cC (by omega),d,abb (by omega),show((2^g.2.length:Nat):Int) - 1=((2^g.2.length - 1:Nat):Int) by omega];congr 1;exact if_pos ⟨by omega,by omega⟩
theorem qK.lt {g:GR} {s:Nat} {d:aP} (h:qK g s d) {v:Nat} (p:v<g.2.length):D d v<(g.2.length:Int):=by
 apply Classical.byContradiction;intro t;have all:∀m:Nat,(m:Int)<=D d v->∃w,w<g.2.length∧D d w=D d v - m:=by
  intro m
  induction m with
  |zero=>intro _;exact⟨v,p,by omega⟩
  |succ m q=>
   intro x;obtain⟨w,e,c⟩:=q (by omega);obtain⟨u,n,_,o⟩:=h.near w e (by omega);exact⟨u,n,by omega⟩
 have b:∀i:Nat,i<g.2.length+1->∃w,w<g.2.length∧D d w=(i:Int):=by
  intro i a;obtain⟨w,e,c⟩:=all (D d v - i).toNat (by omega);exact⟨w,e,by omega⟩
 have:=JK g.2.length (λi=>if a:i<g.2.length+1 then Classical.choose (b i a)else 0) (g.2.length+1) (λi a=>by
  rw[dif_pos a];exact(Classical.choose_spec (b i a)).1) (λi j l f c=>by
  rw[dif_pos (by omega),dif_pos f]at c;have k:=(Classical.choose_spec (b i (by omega))).2;have r:=(Classical.choose_spec (b j f)).2;rw[c]at k;omega)
 omega
def T (e:aP) (k v w:Nat):Int:=if 0<=D e w∧(D e w<k∨(D e w=k∧w<v))then D e w else -1
theorem Us {g:GR} (G:VG g) {s:Nat} {e:aP} (V:qK g s e) {k v:Nat} (af:1<=k) (hk:k<g.2.length) (q:v<g.2.length) (C:aP) (J:kG->Option aP) (r:aP)
  (B:C.length=g.2.length) (W:∀w,w<g.2.length->D C w=T e k v w)
  (K:∀d:aP,d.length=g.2.length->(∀w,w<g.2.length->D d w=T e k (v+1) w)->J ((v:Int)+1,d)=some r):
  bK (uL g ((k:Int),C) ((v:Int),C) J) 1000 ((0:Int),C)=some r:=by
 have X:=(G.node v q).deg;have ab:=G.n24;refine zD (λz:kG=>∃i:Nat,z.1=i∧i<=(row g v).length∧z.2.length=g.2.length∧(∀w,w<g.2.length->w≠v->D z.2 w=T e k v w)∧((D z.2 v=T e k v v∧(D z.2 v<0->∀j,j<i->∀u:Nat,(fY (row g v) j).1=u->D e u≠(k:Int) - 1))∨(D z.2 v=k∧D e v=k))) (λz=>31 - z.1.toNat) ?_ 1000 _ ⟨0,rfl,by omega,B,λw t _=>W w t,.inl ⟨W v q,λ_ j hj=>by omega⟩⟩ (by simp);rintro⟨z,d⟩ aa ⟨i,hz,hi,B,t,H⟩ o;dsimp only at hz B t H;subst hz;have tv:T e k v v=D e v∨T e k v v = -1:=by unfold T;split<;>simp
 have E:(0<=D d v∨i=(row g v).length)->J (wI .i64 ((v:Int)+1),d)=some r:=by
  intro hx;rw[wr (by omega) (by omega)];refine K d B λw y=> ?_;by_cases l:w=v
  ·subst l;rcases H with⟨A,F⟩|⟨A,F⟩
   ·rw[A];unfold T at A ⊢;by_cases a:0<=D e w∧(D e w<k∨(D e w=k∧w<w))
    ·rw[if_pos a,if_pos (by omega)]
    ·rw[if_neg a]at A ⊢;rw[if_neg];intro b;have ac:D e w=k:=by omega
     obtain⟨u,R,⟨j,hj,O⟩,I⟩:=V.near w q (by omega);have ae:i=(row g w).length:=by omega
     exact F (by omega) j (by omega) u O (by omega)
   ·rw[A];unfold T;rw[if_pos (by omega)];omega
  ·rw[t w y l];unfold T;by_cases a:0<=D e w∧(D e w<k∨(D e w=k∧w<v))
   ·rw[if_pos a,if_pos (by omega)]
   ·rw[if_neg a,if_neg (by omega)]
 unfold uL uJ z_ uK;dsimp only;rw[cC (by omega)];by_cases M:i<(row g v).length
 rotate_left
 ·rw[if_neg (show¬(i:Int)<((row g v).length:Int) by omega),if_neg (by simp)];exact E (.inr (by omega))
 obtain⟨u,R,I,n⟩:=G.port q M;rw[if_pos (show(i:Int)<((row g v).length:Int) by omega),cC (by omega)];by_cases f:at' d (v:Int)<0
 rotate_left
 ·rw[if_neg (by rw[decide_eq_false f];simp)];exact E (.inl (by show 0<=at' d (v:Int);omega))
 have S:u≠v:=by rintro rfl;exact Qi G q n
 rw[if_pos (decide_eq_true f),cC (by omega),cC (show 0<=(i:Int)∧(i:Int)<((row g v).length:Int) by omega),show at' (at' g.2 (v:Int)) (i:Int)=fY (row g v) i from rfl,I,cC (by omega),wr (x:=(k:Int) - 1) (by omega) (by omega),wr (x:=(i:Int)+1) (by omega) (by omega)];have P:D d v<0:=f;have p:D d v=T e k v v∧(D d v<0->∀j,j<i->∀u:Nat,(fY (row g v) j).1=u->D e u≠(k:Int) - 1):=by
  rcases H with H|⟨h,_⟩
  ·exact H
  ·omega
 have c:=t u R S;have Q:=V.next u R;by_cases m:at' d (u:Int)=(k:Int) - 1
 ·have Y:D d u=(k:Int) - 1:=m;rw[if_pos m,cC (by omega)];have ad:D e u=(k:Int) - 1:=by
   unfold T at c;by_cases a:0<=D e u∧(D e u<k∨(D e u=k∧u<v))
   ·rw[if_pos a]at c;omega
   ·rw[if_neg a]at c;omega
  have L:D e v=k:=by
   have A:=Q (by omega) v q (G.back q n);have F:=p.1;unfold T at F;by_cases a:0<=D e v∧(D e v<k∨(D e v=k∧v<v))
   ·rw[if_pos a]at F;omega
   ·omega
  refine o _ ⟨i+1,by simp,by omega,by simp[B],λw y l=> ?_,.inr ⟨?_,L⟩⟩ (by dsimp only;omega)
  ·show at' (d.set (Int.toNat (v:Int)) (k:Int)) (w:Int)=_;rw[Int.toNat_natCast,sL _ _ _ _ (by omega),if_neg l];exact t w y l
  ·show at' (d.set (Int.toNat (v:Int)) (k:Int)) (v:Int)=_;rw[Int.toNat_natCast,sL _ _ _ _ (by omega),if_pos Z]
 ·rw[if_neg m];refine o _ ⟨i+1,by simp,by omega,B,t,.inl ⟨p.1,λhn j hj w U he=> ?_⟩⟩ (by dsimp only;omega);by_cases N:j=i
  ·subst N;have:w=u:=by omega
   subst this;unfold T at c;rw[if_pos (by omega)]at c;exact m (by show D d w=_;omega)
  ·exact p.2 hn j (by omega) w U he
theorem Oi {d e:aP} (c:d.length=e.length) (h:∀v,v<d.length->D d v=D e v):d=e:=by
 apply List.ext_getElem c;intro i a b;rw[<-DK a,<-DK b];exact h i a
theorem Ct {g:GR} (r:VG g) {s:Nat} (L:s<g.2.length) {e:aP} (m:qK g s e):AK 1000 g (s:Int)=some e:=by
 have F:=r.n24;unfold AK uI;rw[(OH g r.light).1 r,bF Z,if_neg (by simp),xZ,wr (by omega) (by omega),decide_eq_true (by omega),bF Z,if_neg (by simp)];refine zD (λz:List Int×Int=>∃k:Nat,z.2=k∧k<=g.2.length∧z.1=List.replicate k (-1)) (λz=>31 - z.2.toNat) ?_ 1000 _ ⟨0,rfl,by omega,rfl⟩ (by simp);rintro⟨l,z⟩ J ⟨k,b,G,p⟩ x;dsimp only at b p;subst b p;unfold Ac;dsimp only;by_cases H:k<g.2.length
 ·rw[if_pos (by omega),cC (by simp only[List.length_replicate,List.length_singleton];omega),wr (by omega) (by omega)];exact x _ ⟨k+1,by simp,by omega,by dsimp only;rw[List.replicate_succ']⟩ (by dsimp only;omega)
 rw[if_neg (by omega)];have i:k=g.2.length:=by omega
 subst i;unfold zX;rw[cC (by simp only[List.length_replicate];omega),Int.toNat_natCast];have y:∀w,w<g.2.length->D ((List.replicate g.2.length (-1:Int)).set s 0) w=T e 1 0 w:=by
  intro w t;have q:=sL (List.replicate g.2.length (-1:Int)) s w 0 (by simp only[List.length_replicate];omega);have b:=m.zero w t;show at' _ _=_;rw[q];by_cases c:w=s
  ·have:=b.2 c;rw[if_pos c];unfold T;rw[if_pos (by omega)];omega
  ·have:D e w≠0:=λh=>c (b.1 h);rw[if_neg c,fT,List.getD_eq_getElem?_getD,List.getElem?_replicate,if_pos t];unfold T;rw[if_neg (by omega)];rfl
 refine zD (λz:kG=>∃k:Nat,z.1=k∧1<=k∧(k<=g.2.length)∧z.2.length=g.2.length∧∀w,w<g.2.length->D z.2 w=T e k 0 w) (λz=>31 - z.1.toNat) ?_ 1000 _ ⟨1,rfl,by omega,by omega,by simp,y⟩ (by simp);rintro⟨z,d⟩ E ⟨k,b,A,G,j,f⟩ n;dsimp only at b j f;subst b;unfold Aa zY;dsimp only;by_cases i:k<g.2.length
 rotate_left
 ·rw[if_neg (by omega)];congr 1;refine Oi (j.trans m.len.symm) λv I=> ?_;have q:=m.lt (v:=v) (by omega);have C:=m.lo v (by omega);rw[f v (by omega)];unfold T;by_cases a:0<=D e v
  ·rw[if_pos (by omega)]
  ·rw[if_neg (by omega)];omega
 rw[if_pos (by omega)];refine zD (λz:kG=>∃v:Nat,z.1=v∧v<=g.2.length∧z.2.length=g.2.length∧∀w,w<g.2.length->D z.2 w=T e k v w) (λz=>31 - z.1.toNat) ?_ 1000 _ ⟨0,rfl,by omega,j,f⟩ (by simp);rintro⟨z,d⟩ u ⟨v,b,I,j,f⟩ o;dsimp only at b j f;subst b;unfold Ab zZ;dsimp only;by_cases B:v<g.2.length
 ·rw[if_pos (by omega)];exact Us r m A i B d u e j f λK q C=>o _ ⟨v+1,by simp,by omega,q,C⟩ (by dsimp only;omega)
 ·rw[if_neg (by omega),wr (by omega) (by omega)];refine n _ ⟨k+1,by simp,by omega,by omega,j,λw t=> ?_⟩ (by dsimp only;omega);rw[f w t];unfold T;by_cases a:0<=D e w∧(D e w<k∨(D e w=k∧w<v))
  ·rw[if_pos a,if_pos (by omega)]
  ·rw[if_neg a,if_neg (by omega)]
theorem VW {g:GR} (b:VG g) {s:Nat} (i:s<g.2.length) {d:aP} (a:qK g s d):(∀v,v<d.length->0<=D d v)↔LA g:=by
 have c:=a.len;constructor
 ·intro h u v j e;exact⟨_,wQ.trans (Fv b (qK.pos b a j (h u (by omega)))) (qK.pos b a e (h v (by omega)))⟩
 ·intro h v e;obtain⟨k,f⟩:=h s v i (by omega);exact(qK.le b a f).1
theorem WQ {X R:Type} {step:X->(X->Option R)->Option R} {K:X->Option R} {bad:R} (N:Nat) (p:Nat->Prop) (I:Nat->X->Prop) (B:Nat)
  (t:∀(k:Nat) x q,k<N->k<B->I k x->p k->∃c,I (k+1) c∧step x q=q c) (l:∀(k:Nat) x q,k<N->k<B->I k x->¬p k->step x q=some bad) (s:∀x q,I N x->N<B->step x q=K x):
  ∀(b:Nat) (x:X),I 0 x->B<=b->(N<B∨∃k,k<N∧k<B∧¬p k)->((∀k,k<N->p k)->∃c,I N c∧bK step b x=K c)∧(¬(∀k,k<N->p k)->bK step b x=some bad):=by
 intro b x e v hB;have r:∀(d a b:Nat) (x:X),I a x->a+d<N->a+d<B->¬p (a+d)->d<b->bK step b x=some bad:=by
  intro d
  induction d with
  |zero=>
   intro a b x e j g i v;obtain⟨f,rfl⟩:∃f,b=f+1:=⟨b - 1,by omega⟩
   exact l a x _ j g e i
  | succ d y =>
   intro a b x e j g i v;obtain⟨f,rfl⟩:∃f,b=f+1:=⟨b - 1,by omega⟩
   by_cases u:p a
   ·obtain⟨c,n,o⟩:=t a x (bK step f) (by omega) (by omega) e u;have o:bK step (f+1) x=bK step f c:=o;rw[o];exact y (a+1) f c n (by omega) (by omega) (by rw[show a+1+d=a+(d+1) by omega];exact i) (by omega)
   ·exact l a x _ (by omega) (by omega) e u
 have m:∀(d a b:Nat) (x:X),I a x->a+d=N->N<B->(∀k,a<=k->k<N->p k)->d<b->∃c,I N c∧bK step b x=K c:=by
  intro d
  induction d with
  |zero=>
   intro a b x e j g i v;obtain⟨f,rfl⟩:∃f,b=f+1:=⟨b - 1,by omega⟩
   obtain rfl:a=N:=by omega
   exact⟨x,e,s x _ e g⟩
  |succ d y=>
   intro a b x e j g i v;obtain⟨f,rfl⟩:∃f,b=f+1:=⟨b - 1,by omega⟩
   obtain⟨c,n,o⟩:=t a x (bK step f) (by omega) (by omega) e (i a (Nat.le_refl _) (by omega));have o:bK step (f+1) x=bK step f c:=o;rw[o];exact y (a+1) f c n (by omega) g (λk j g=>i k (by omega) g) (by omega)
 constructor
 ·intro h;rcases hB with hB|⟨k,j,_,g⟩
  ·exact m N 0 b x e (by omega) hB (λk _ w=>h k w) (by omega)
  ·exact absurd (h k j) g
 ·intro h;have:∃k,k<N∧k<B∧¬p k:=by
   rcases hB with hB|hB
   ·apply Classical.byContradiction;intro A;exact h λk w=>Classical.byContradiction λi=>A ⟨k,w,by omega,i⟩
   ·exact hB
  obtain⟨k,j,g,z⟩:=this;exact r k 0 b x e (by omega) (by omega) (by rw[Nat.zero_add];exact z) (by omega)
theorem Uu {a:gE} (q:a.length<=30) {v:Nat} (r:v<a.length):(at' a (v:Int)).length<1000∨∃k,k<(at' a (v:Int)).length∧k<1000∧¬Gs (at' a (v:Int)) v a.length k:=by
 by_cases h:(at' a (v:Int)).length<1000
 ·exact .inl h
 ·right;apply Classical.byContradiction;intro f;have b:∀k,k<40->Gs (at' a (v:Int)) v a.length k:=λk p=>Classical.byContradiction λl=>f ⟨k,by omega,by omega,l⟩;have:=JK a.length (λi=>(fY (at' a (v:Int)) i).1.toNat) 40 (λi g=>by have:=(b i g).1;omega) (λi j c d o=>by
   have m:=(b i (by omega)).1;have n:=(b j d).1;have e:=(b j d).2.2.2 i c;exact e (by omega))
  omega
theorem Ez (c:gE) (hn:c.length<=30):(Ky c->fW 1000 c=some true)∧(¬Ky c->fW 1000 c=some false):=by
 unfold fW;have s:∀(v:Nat) (m:List ((Int×Int)×Int)) p,v<c.length->(∀z,z∈m↔Nx c v 0 z)->
   (pL (at' c (v:Int)) v c.length->∃Y,(∀z,z∈Y↔Nx c (v+1) 0 z)∧bK (cD c ((v:Int),m) p) 1000 ((0:Int),m)=p ((v:Int)+1,Y))∧
   (¬pL (at' c (v:Int)) v c.length->bK (cD c ((v:Int),m) p) 1000 ((0:Int),m)=some false):=by
  intro v m p F hm;have L:=Uu hn F;have S:=WQ (step:=cD c ((v:Int),m) p) (K:=λx=>p ((v:Int)+1,x.2)) (bad:=false) (at' c (v:Int)).length (Gs (at' c (v:Int)) v c.length) (λi x=>x.1=(i:Int)∧∀z,z∈x.2↔Nx c v i z) 1000 ?_ ?_ ?_ 1000 ((0:Int),m) ⟨rfl,hm⟩ (by omega) L
  ·refine⟨λh=> ?_,λh=>S.2 h⟩
   obtain⟨x,⟨ah,ae⟩,f⟩:=S.1 h;refine⟨x.2,λz=>(ae z).trans ⟨?_,?_⟩,f⟩
   ·rintro⟨a,b,y,e,l⟩;exact⟨a,b,by omega,e,l⟩
   ·rintro⟨a,b,y,e,l⟩;refine⟨a,b,?_,e,l⟩
    by_cases X:a=v
    ·subst X;exact .inr ⟨rfl,e⟩
    ·omega
  ·rintro i ⟨H,g⟩ I N ac ⟨f,d⟩ ⟨p1,p2,p3,p4⟩;dsimp only at f d;subst f;have q:lV (((v:Int),(fY (at' c (v:Int)) i).1)) g=none:=by
    apply GQ;intro w hw;obtain⟨a,b,y,e,l⟩:=(d _).1 hw;simp only[Prod.mk.injEq]at l;obtain⟨⟨C,A⟩,_⟩:=l;have:a=v:=by omega
    subst this;have hb:b<i:=by omega
    exact p4 b hb A.symm
   refine⟨((i:Int)+1,BZ (((v:Int),(fY (at' c (v:Int)) i).1)) (fY (at' c (v:Int)) i).2 g),⟨by simp,λz=> ?_⟩,?_⟩
   ·dsimp only;rw[Om q,d];constructor
    ·rintro(rfl|⟨a,b,y,e,l⟩)
     ·exact⟨v,i,.inr ⟨rfl,by omega⟩,N,rfl⟩
     ·exact⟨a,b,by omega,e,l⟩
    ·rintro⟨a,b,y,e,l⟩;by_cases J:a=v∧b=i
     ·left;rw[l,J.1,J.2]
     ·right;exact⟨a,b,by omega,e,l⟩
   ·replace p1:0<=(at' (at' c (v:Int)) (i:Int)).1∧(at' (at' c (v:Int)) (i:Int)).1<=(c.length:Int) - 1:=p1;replace p3:1<=(at' (at' c (v:Int)) (i:Int)).2∧(at' (at' c (v:Int)) (i:Int)).2<=15:=p3;unfold cD gM iQ;dsimp only;rw[if_pos (by omega),cC (by omega),if_neg (by omega),if_neg (by omega),if_neg (by rw[decide_eq_false p2];simp),if_neg (by omega),if_neg (by rw[decide_eq_false (by omega)];simp),q,if_neg (by simp),wr (by omega) (by omega)]
  ·rintro i ⟨H,g⟩ I N ac ⟨f,d⟩ Q;dsimp only at f d;subst f;unfold cD gM iQ;dsimp only;rw[if_pos (by omega),cC (by omega)];by_cases y:(fY (at' c (v:Int)) i).1<0
   ·rw[if_pos y,if_pos Z]
   rw[if_neg y];by_cases e:(c.length:Int)<=(fY (at' c (v:Int)) i).1
   ·rw[if_pos e,if_pos Z]
   rw[if_neg e];by_cases l:(fY (at' c (v:Int)) i).1=v
   ·rw[if_pos (decide_eq_true l)]
   rw[if_neg (by rw[decide_eq_false l];simp)];by_cases C:(fY (at' c (v:Int)) i).2<1
   ·rw[if_pos C,if_pos Z]
   rw[if_neg C];by_cases A:15<(fY (at' c (v:Int)) i).2
   ·rw[if_pos (decide_eq_true A)]
   rw[if_neg (by rw[decide_eq_false A];simp)];have:∃k,k<i∧(fY (at' c (v:Int)) k).1=(fY (at' c (v:Int)) i).1:=by
    apply Classical.byContradiction;intro hc;exact Q ⟨by omega,l,by omega,λk O M=>hc ⟨k,O,M⟩⟩
   obtain⟨k,O,M⟩:=this;have n:=(d _).2 ⟨v,k,.inr ⟨rfl,O⟩,by omega,rfl⟩;rw[if_pos];rw[<-M];cases q:lV (((v:Int),(fY (at' c (v:Int)) k).1)) g with
   |some w=>rfl
   | none => exact absurd n (by
     intro n;exact tA q n)
  ·rintro⟨H,g⟩ I ⟨f,d⟩ _;dsimp only at f d;subst f;unfold cD mB;dsimp only;rw[if_neg (by omega),wr (by omega) (by omega)]
 have t:=FG (step:=cM 1000 c) (K:=λx=>iP x.2) (bad:=false) c.length (λv=>pL (at' c (v:Int)) v c.length) (λv x=>x.1=(v:Int)∧∀z,z∈x.2↔Nx c v 0 z) ?_ ?_ ?_ 1000 ((0:Int),[]) ⟨rfl,λz=>⟨λh=>(by cases h),fun⟨a,b,y,_⟩=>(by omega)⟩⟩ (by omega)
 rotate_left
 ·rintro v ⟨H,g⟩ p F ⟨f,d⟩ Q;dsimp only at f d;subst f;obtain⟨Y,y,e⟩:=(s v g p F d).1 Q;refine⟨((v:Int)+1,Y),⟨by simp,y⟩,?_⟩
  ·unfold cM;dsimp only;rw[if_pos (by omega),cC (by omega)];exact e
 ·rintro v ⟨H,g⟩ p F ⟨f,d⟩ Q;dsimp only at f d;subst f;unfold cM;dsimp only;rw[if_pos (by omega),cC (by omega)];exact(s v g p F d).2 Q
 ·rintro⟨H,g⟩ p ⟨f,d⟩;dsimp only at f d;subst f;unfold cM;dsimp only;rw[if_neg (by omega)]
 by_cases D:∀v,v<c.length->pL (at' c (v:Int)) v c.length
 rotate_left
 ·exact⟨λh=>absurd h.1 D,λ_=>t.2 D⟩
 obtain⟨⟨H,g⟩,⟨f,d⟩,M⟩:=t.1 D;rw[M];dsimp only at d ⊢;have O:iP g=some (decide (∀z∈g,¬(Option.getD (lV (z.1.2,z.1.1) g) (0:Int))≠z.2)):=JG (λz:(Int×Int)×Int=>(Option.getD (lV (z.1.2,z.1.1) g) (0:Int))≠z.2) g;rw[O];have E:(∀z∈g,¬(Option.getD (lV (z.1.2,z.1.1) g) (0:Int))≠z.2)↔∀v,v<c.length->∀i,i<(at' c (v:Int)).length->Cq ([],c) v i:=by
  constructor
  ·intro h v F i N;have hw:=(D v F i N).2.2.1;have n:=(d (((v:Int),(fY (at' c (v:Int)) i).1),(fY (at' c (v:Int)) i).2)).2 ⟨v,i,.inl F,N,rfl⟩;have e:=Decidable.not_not.1 (h _ n);dsimp only at e;cases q:lV ((fY (at' c (v:Int)) i).1,(v:Int)) g with
   |none=>rw[q]at e;simp only[Option.getD]at e;omega
   | some w =>
    rw[q]at e;simp only[Option.getD]at e;obtain⟨a,b,l,C,A⟩:=(d _).1 (Br q);simp only[Prod.mk.injEq]at A;obtain⟨⟨U,V⟩,h8⟩:=A;refine⟨b,?_,?_,?_⟩
    ·show b<(at' c (fY (at' c (v:Int)) i).1).length;rw[U];exact C
    ·show(fY (at' c (fY (at' c (v:Int)) i).1) b).1=v;rw[U];exact V.symm
    ·show(fY (at' c (fY (at' c (v:Int)) i).1) b).2=(fY (at' c (v:Int)) i).2;rw[U,<-h8];exact e
  ·intro h z hz ad;obtain⟨a,b,l,C,rfl⟩:=(d z).1 hz;have X:a<c.length:=by omega
   apply ad;obtain⟨j,r,o,B⟩:=h a X b C;have hu:=(D a X b C).1;obtain⟨u,R⟩:∃u:Nat,(fY (at' c (a:Int)) b).1=u:=⟨(fY (at' c (a:Int)) b).1.toNat,by omega⟩
   replace r:j<(at' c (fY (at' c (a:Int)) b).1).length:=r;replace o:(fY (at' c (fY (at' c (a:Int)) b).1) j).1=a:=o;replace B:(fY (at' c (fY (at' c (a:Int)) b).1) j).2=(fY (at' c (a:Int)) b).2:=B;rw[R]at r o B;have G:u<c.length:=by omega
   dsimp only;rw[R,<-B];have n:=(d (((u:Int),(fY (at' c (u:Int)) j).1),(fY (at' c (u:Int)) j).2)).2 ⟨u,j,.inl G,r,rfl⟩;rw[o]at n;cases q:lV ((u:Int),(a:Int)) g with
   |none=>exact absurd n (tA q)
   | some w =>
    obtain⟨a',T,af,aa,A⟩:=(d _).1 (Br q);simp only[Prod.mk.injEq]at A;obtain⟨⟨U,V⟩,h8⟩:=A;have:a'=u:=by omega
    subst this;have ab:T=j:=by
     rcases Nat.lt_trichotomy T j with P|P|P
     ·exact absurd (V.symm.trans o.symm) ((D a' G j r).2.2.2 T P)
     ·exact P
     ·exact absurd (o.trans V) ((D a' G T aa).2.2.2 j P)
    subst ab;exact h8
 by_cases W:∀v,v<c.length->∀i,i<(at' c (v:Int)).length->Cq ([],c) v i
 ·rw[decide_eq_true (E.2 W)];exact⟨λ_=>rfl,λh=>absurd ⟨D,W⟩ h⟩
 ·rw[decide_eq_false (λh=>W (E.1 h))];exact⟨λh=>absurd h.2 W,λ_=>rfl⟩
theorem UA (g:GR):(VG g->gQ 1000 g=some true)∧(¬VG g->gQ 1000 g=some false):=by
 unfold gQ oY oZ;by_cases e:g.1.length<1
 ·rw[if_pos (by omega)];exact⟨λh=>by have:=h.n1;have:=h.len;omega,λ_=>rfl⟩
 rw[if_neg (by omega)];by_cases f:24<g.1.length
 ·rw[if_pos (by omega)];exact⟨λh=>by have:=h.n24;have:=h.len;omega,λ_=>rfl⟩
 rw[if_neg (by omega)];by_cases d:g.1.length=g.2.length
 rotate_left
 ·rw[decide_eq_true (by omega)];exact⟨λh=>absurd h.len d,λ_=>rfl⟩
 rw[decide_eq_false (by omega),if_neg (by simp)];by_cases b:∀k,k<g.1.length->UM g.1 k
 rotate_left
 ·rw[(tI g.1 (by omega)).2 b,bF Z];exact⟨λh=>absurd (λk i=>⟨(h.node k (by omega)).id,(h.node k (by omega)).ids⟩) b,λ_=>rfl⟩
 rw[(tI g.1 (by omega)).1 b,bF Z,if_pos Z];by_cases a:Ky g.2
 ·rw[(Ez g.2 (by omega)).1 a];exact⟨λ_=>rfl,λh=>absurd ⟨by omega,by omega,d,λv c=>⟨(b v (by omega)).1,Qs c (a.1 v c),a.1 v c,(b v (by omega)).2⟩,a.2⟩ h⟩
 ·rw[(Ez g.2 (by omega)).2 a];exact⟨λh=>absurd ⟨λv c=>(h.node v c).links,h.sym⟩ a,λ_=>rfl⟩
abbrev PY:=CM
theorem sE (v m:Int) (g:1<=m) (h:m<=4611686018427387904):fE 1000 v m=some (v%m):=by
 unfold fE qG;rw[if_neg (by omega),cC (by omega)];have c:=Int.tmod_eq_emod (a:=v) (b:=m);have f:=Int.emod_nonneg v (show m≠0 by omega);have i:=Int.emod_lt_of_pos v (show 0<m by omega);by_cases e:0<=v∨m∣v
 ·rw[if_pos e]at c;have d:v.tmod m=v%m:=by simpa using c
  rw[d,if_neg (by omega)]
 ·rw[if_neg e]at c;have:(m.natAbs:Int)=m:=by omega
  rw[c,if_pos (by omega),wr (by omega) (by omega)];congr 1;omega
theorem NO (l:aP) (i:Int) (h:0<=i):rD 1000 l i=some (at' l i):=by
 unfold rD;by_cases a:i<(l.length:Int)
 ·rw[if_pos a,cC ⟨h,a⟩]
 ·rw[if_neg a];unfold at';rw[List.getD_eq_getElem?_getD,List.getElem?_eq_none (by omega)];rfl
theorem Ow {i:Type} [DecidableEq i]:∀(e c:List i),e.Nodup->(∀x∈e,x∈c)->e.length<=c.length
 | [],_,_,_=>Nat.zero_le _
 | a :: t, c, hn, hs => by
  have b:=List.nodup_cons.1 hn;have f:=hs a (List.mem_cons_self ..);have:=Ow t (c.erase a) b.2 λx h=>by
   have d:x≠a:=λj=>b.1 (j▸h);exact(List.mem_erase_of_ne d).2 (hs x (List.mem_cons_of_mem _ h))
  rw[List.length_erase_of_mem f]at this;have g:0<c.length:=List.length_pos_of_mem f;simp only[List.length_cons];omega
theorem XW (d:Int) (c:aP) (t:Nat) (k:t<=200) (h:∀s,s<t->(d+(s:Int))%256∈c):t<=c.length:=by
 have:=Ow ((List.range t).map λs:Nat=>(d+(s:Int))%256) c (by
  rw[List.nodup_iff_pairwise_ne,List.pairwise_map];refine List.Pairwise.imp_of_mem ?_ List.pairwise_lt_range;intro a b e g f;rw[List.mem_range]at e g;omega) (λx j=>by
  obtain⟨s,i,rfl⟩:=List.mem_map.1 j;exact h s (List.mem_range.1 i))
 simpa using this
structure IB (ids:aP):Prop where
 rng:∀y∈ids,0<=y∧y<=255
 nd:ids.Nodup
theorem IB.snoc {c:aP} {y:Int} (h:IB c) (j:0<=y∧y<=255) (i:y∉c):IB (c++[y]):=by
 refine⟨λz d=> ?_,?_⟩
 ·rcases List.mem_append.1 d with d|d
  ·exact h.rng z d
  ·rw[List.mem_singleton.1 d];exact j
 ·rw[List.nodup_append];refine⟨h.nd,by simp,?_⟩
  intro a e b f;rw[List.mem_singleton.1 f];exact λg=>i (g▸e)
theorem Bq {a:Type} [Inhabited a] {l:List a} {i:Nat} (h:i<l.length):at' l (i:Int)∈l:=by
 rw[fT,List.getD_eq_getElem?_getD,List.getElem?_eq_getElem h];exact List.getElem_mem h
theorem DR {a:Type} [Inhabited a] {l:List a} {x:a} (h:x∈l):∃i,i<l.length∧at' l ((i:Nat):Int)=x:=by
 obtain⟨i,b,c⟩:=List.getElem_of_mem h;refine⟨i,b,?_⟩
 rw[fT,List.getD_eq_getElem?_getD,List.getElem?_eq_getElem b];exact c
theorem Ww {Q:List Int×gE->Prop} {a:aP} (H:a.length<=24) (b:Int) (r:kG->Option (List Int×gE))
  (m:∀y,0<=y->y<=255->y∉a->OK Q (r ((a.length:Int)+1,a++[y]))):OK Q (bK (kU ((a.length:Int),a) r) 1000 (b%256,0)):=by
 refine xE (λs:fH=>∃(t u:Nat),s.1=(b+(t:Int))%256∧s.2=u∧u<=a.length∧t<=a.length∧(∀k,k<t->(b+(k:Int))%256∈a)∧∀j,j<u->at' a (j:Int)≠s.1)
  (λs=>(a.length - ((s.1 - b)%256).toNat)*30+(a.length - s.2.toNat)) ?_ 1000 _ ⟨0,0,by simp,rfl,by omega,by omega,λk p=>by omega,λj o=>by omega⟩ ?_
 ·rintro⟨i,j⟩ z ⟨t,u,g,v,F,C,w,l⟩ d;dsimp only at g v l;subst v;unfold kU qV kT;dsimp only;by_cases x:(u:Int)<(a.length:Int)
  ·rw[if_pos x,cC (by omega)];by_cases f:at' a (u:Int)=i
   ·rw[if_pos f,cC (by decide)];have n:(b+(t:Int))%256∈a:=by rw[<-g,<-f];exact Bq (by omega)
    have c:∀k,k<t+1->(b+(k:Int))%256∈a:=λk p=>by
     rcases Nat.lt_succ_iff_lt_or_eq.1 p with h|h
     ·exact w k h
     ·subst h;exact n
    have E:=XW b a (t+1) (by omega) c;have G:0<=i∧i<=255:=by omega
    rw[wr (by omega) (by omega),Int.tmod_eq_emod_of_nonneg (by omega),wr (by omega) (by omega)];refine d _ ⟨t+1,0,?_,by simp,by omega,E,c,λj o=>by omega⟩ ?_
    ·dsimp only;omega
    ·dsimp only;have A:((i+1)%256 - b)%256=(t:Int)+1:=by omega
     have B:(i - b)%256=(t:Int):=by omega
     rw[A,B];omega
   ·rw[if_neg f,wr (by omega) (by omega)];refine d _ ⟨t,u+1,g,by dsimp only;omega,by omega,C,w,λj o=> ?_⟩ ?_
    ·rcases Nat.lt_succ_iff_lt_or_eq.1 o with h|h
     ·exact l j h
     ·subst h;exact f
    ·dsimp only;omega
  ·rw[if_neg x];rw[cC (by simp;omega),wr (by omega) (by omega)];refine m i (by omega) (by omega) λD=> ?_;obtain⟨k,p,q⟩:=DR D;exact l k (by omega) q
 ·dsimp only;have e:(b%256 - b)%256=0:=by omega
  rw[e];omega
theorem Xm (x:PY) (a:Nat) (u:1<=a) (k:a<=24):OK (λg:GR=>IB g.1∧g.2=List.replicate g.1.length []∧1<=g.1.length∧g.1.length<=a) (oF 1000 x (a:Int)):=by
 unfold oF;rw[bF (sE _ _ (by omega) (by omega))];generalize f:(wI .i64 (x.1 - 1))%(a:Int)=r;have m:0<=r:=by rw[<-f];exact Int.emod_nonneg _ (by omega)
 have n:r<a:=by rw[<-f];exact Int.emod_lt_of_pos _ (by omega)
 have i:wI .i64 (1+r)=1+r:=wr (by omega) (by omega);rw[i,cC (by omega)];refine xE (λs:kG=>s.1=(s.2.length:Int)∧(s.2.length:Int)<=1+r∧IB s.2) (λs=>(1+r - s.1).toNat) ?_ 1000 _ ⟨rfl,by simp;omega,⟨λy o=>by simp at o,List.nodup_nil⟩⟩ (by dsimp only;omega);rintro⟨v,d⟩ j ⟨e,l,c⟩ b;dsimp only at e l c;subst e;unfold iV nP;dsimp only;rw[i];by_cases h:(d.length:Int)<1+r
 ·rw[if_pos h,bF (NO _ _ (by omega)),bF (sE _ _ (by decide) (by decide))];exact Ww (by omega) _ j λy p q t=>b _ ⟨by simp,by simp;omega,c.snoc ⟨p,q⟩ t⟩ (by dsimp only;omega)
 ·rw[if_neg h];refine⟨_,rfl,c,?_,by dsimp only;omega,by dsimp only;omega⟩
  dsimp only;congr 1;omega
structure VM (ids:aP) (P:gE):Prop where
 n1:1<=P.length
 n24:P.length<=24
 len:ids.length=P.length
 ok:IB ids
 nd:∀v:Nat,v<P.length->((at' P (v:Int)).map Prod.fst).Nodup
 lk:∀v:Nat,v<P.length->∀x∈at' P (v:Int),(0<=x.1∧x.1<=(P.length:Int) - 1)∧x.1≠(v:Int)∧(1<=x.2∧x.2<=15)∧((v:Int),x.2)∈at' P x.1
theorem Xn {d:Type} [Inhabited d] {l:List d} (h:l.Nodup) {i j:Nat} (b:i<l.length) (c:j<l.length) (a:i<j):at' l (i:Int)≠at' l (j:Int):=by
 rw[fT,fT,List.getD_eq_getElem?_getD,List.getD_eq_getElem?_getD,List.getElem?_eq_getElem b,List.getElem?_eq_getElem c];exact List.pairwise_iff_getElem.1 (List.nodup_iff_pairwise_ne.1 h) i j b c a
theorem VM.vg {ids:aP} {P:gE} (h:VM ids P):VG (ids,P):=by
 have hlen:=h.len;have links:∀v,v<P.length->pL (row (ids,P) v) v P.length:=by
  intro v hv i hi;have hm:fY (row (ids,P) v) i∈at' P (v:Int):=Bq hi;obtain⟨a1,a2,a3,_⟩:=h.lk v hv _ hm;refine⟨a1,a2,a3,λk hk=> ?_⟩
  have hk2:k<(row (ids,P) v).length:=by omega
  have:=List.pairwise_iff_getElem.1 (List.nodup_iff_pairwise_ne.1 (h.nd v hv)) k i (by simpa using hk2) (by simpa using hi) hk;rw[List.getElem_map,List.getElem_map]at this;have e:∀j (hj:j<(row (ids,P) v).length),fY (row (ids,P) v) j=(at' P (v:Int))[j]'hj:=λj hj=>by
   unfold fY;rw[fT,List.getD_eq_getElem?_getD,List.getElem?_eq_getElem hj];rfl
  rw[e k hk2,e i hi];exact this
 refine⟨h.n1,h.n24,h.len,λv hv=>⟨?_,Qs hv (links v hv),links v hv,λk hk=> ?_⟩,λv hv i hi=> ?_⟩
 ·exact h.ok.rng _ (Bq (by dsimp only at hv ⊢;omega))
 ·exact Xn h.ok.nd (by dsimp only at hv ⊢;omega) (by dsimp only at hv ⊢;omega) hk
 ·have hm:fY (row (ids,P) v) i∈at' P (v:Int):=Bq hi;obtain⟨_,_,_,a4⟩:=h.lk v hv _ hm;obtain⟨j,hj,he⟩:=DR a4;exact⟨j,hj,by unfold fY;rw[he],by unfold fY;rw[he]⟩
theorem VM.start {a:aP} (h:IB a) (d:1<=a.length) (b:a.length<=24):VM a (List.replicate a.length []):=by
 have e:∀v:Nat,at' (List.replicate a.length ([]:eW)) (v:Int)=[]:=λv=>by
  rw[fT,List.getD_eq_getElem?_getD,List.getElem?_replicate];split<;>rfl
 refine⟨by simpa using d,by simpa using b,by simp,h,λv _=>by rw[e];exact List.nodup_nil,λv _ x c=> ?_⟩
 rw[e]at c;cases c
def lX (P:gE) (v u:Nat):Prop:=∃x∈at' P (v:Int),x.1=(u:Int)
theorem KV (d:aP) (P:gE) (a b:Nat) (u:a<P.length) (w:(at' P (a:Int)).length<=900):(lX P a b->mN 1000 (d,P) a b=some true)∧(¬lX P a b->mN 1000 (d,P) a b=some false):=by
 have c:∀(r:Bool),(r=true->lX P a b)->(r=false->¬lX P a b)->mN 1000 (d,P) a b=some r:=by
  intro r q p;unfold mN;refine zD (λi:Int=>∃k:Nat,i=k∧k<=(at' P (a:Int)).length∧∀j,j<k->(at' (at' P (a:Int)) ((j:Nat):Int)).1≠(b:Int)) (λi=>(at' P (a:Int)).length - i.toNat) ?_ 1000 0 ⟨0,rfl,by omega,λj m=>by omega⟩ (by omega);rintro i t ⟨k,rfl,v,f⟩ g;unfold yP uA;dsimp only;rw[cC (by omega)];by_cases o:(k:Int)<((at' P (a:Int)).length:Int)
  ·rw[if_pos o,cC (by omega),cC (by omega)];by_cases e:(at' (at' P (a:Int)) (k:Int)).1=(b:Int)
   ·rw[if_pos e];cases r with
    |true=>rfl
    |false=>exact absurd ⟨_,Bq (by omega),e⟩ (p Z)
   ·rw[if_neg e,wr (by omega) (by omega)];refine g _ ⟨k+1,by omega,by omega,λj m=> ?_⟩ (by omega);rcases Nat.lt_succ_iff_lt_or_eq.1 m with h|h
    ·exact f j h
    ·subst h;exact e
  ·rw[if_neg o];cases r with
   |false=>rfl
   |true=>
    obtain⟨x,s,e⟩:=q Z;obtain⟨j,m,n⟩:=DR s;exact absurd (by rw[n];exact e) (f j (by omega))
 exact⟨λh=>c true (λ_=>h) (λl=>by cases l),λh=>c false (λl=>by cases l) (λ_=>h)⟩
theorem Zb (P:gE) (a b:Nat) (x y:eW) (e:a<P.length) (f:b<P.length) (v:Nat):at' ((P.set a x).set b y) (v:Int)=if v=b then y else if v=a then x else at' P (v:Int):=by
 rw[fT,fT,List.getD_eq_getElem?_getD,List.getD_eq_getElem?_getD,List.getElem?_set,List.getElem?_set];by_cases h:v=b
 ·subst h;rw[if_pos Z,if_pos Z,if_pos (by simpa using f)];rfl
 ·rw[if_neg (λd=>h d.symm),if_neg h];by_cases c:v=a
  ·subst c;rw[if_pos Z,if_pos Z,if_pos e];rfl
  ·rw[if_neg (λd=>c d.symm),if_neg c]
theorem VM.add {m:aP} {P:gE} (h:VM m P) {a b:Nat} {w:Int} (J:a<P.length) (A:b<P.length) (p:a≠b) (B:¬lX P a b) (D:1<=w∧w<=15)
  {x y:eW} (E:x.Perm (((b:Int),w)::at' P (a:Int))) (F:y.Perm (((a:Int),w)::at' P (b:Int))):
  VM m ((P.set a x).set b y)∧(∀v u,lX P v u->lX ((P.set a x).set b y) v u)∧lX ((P.set a x).set b y) a b:=by
 have r:¬lX P b a:=by
  rintro⟨z,g,i⟩;obtain⟨_,_,_,l⟩:=h.lk b A z g;rw[i]at l;exact B ⟨_,l,rfl⟩
 have C:=Zb P a b x y J A;have k:((P.set a x).set b y).length=P.length:=by simp
 have d:∀(v:Nat) (z:fH),z∈at' ((P.set a x).set b y) (v:Int)↔z∈at' P (v:Int)∨(v=b∧z=((a:Int),w))∨(v=a∧z=((b:Int),w)):=by
  intro v z;rw[C v];by_cases f:v=b
  ·subst f;rw[if_pos Z,F.mem_iff,List.mem_cons];constructor
   ·rintro(c|c)
    ·exact .inr (.inl ⟨rfl,c⟩)
    ·exact .inl c
   ·rintro(c|⟨_,c⟩|⟨e,_⟩)
    ·exact .inr c
    ·exact .inl c
    ·exact absurd e.symm p
  ·rw[if_neg f];by_cases c:v=a
   ·subst c;rw[if_pos Z,E.mem_iff,List.mem_cons];constructor
    ·rintro(e|e)
     ·exact .inr (.inr ⟨rfl,e⟩)
     ·exact .inl e
    ·rintro(e|⟨n,_⟩|⟨_,e⟩)
     ·exact .inr e
     ·exact absurd n f
     ·exact .inl e
   ·rw[if_neg c];exact⟨.inl,λe=>e.elim id λn=>n.elim (λo=>absurd o.1 f) λo=>absurd o.1 c⟩
 refine⟨⟨by rw[k];exact h.n1,by rw[k];exact h.n24,by rw[k];exact h.len,h.ok,λv j=> ?_,λv j z g=> ?_⟩,λv u s=> ?_,?_⟩
 ·rw[k]at j;rw[C v];by_cases f:v=b
  ·subst f;rw[if_pos Z,(F.map Prod.fst).nodup_iff,List.map_cons,List.nodup_cons];exact⟨λq=>by obtain⟨z,g,i⟩:=List.mem_map.1 q;exact r ⟨z,g,i⟩,h.nd v j⟩
  ·rw[if_neg f];by_cases c:v=a
   ·subst c;rw[if_pos Z,(E.map Prod.fst).nodup_iff,List.map_cons,List.nodup_cons];exact⟨λq=>by obtain⟨z,g,i⟩:=List.mem_map.1 q;exact B ⟨z,g,i⟩,h.nd v j⟩
   ·rw[if_neg c];exact h.nd v j
 ·rw[k]at j ⊢;rcases(d v z).1 g with f|⟨rfl,rfl⟩|⟨rfl,rfl⟩
  ·obtain⟨G,H,I,t⟩:=h.lk v j z f;refine⟨G,H,I,?_⟩
   obtain⟨u,K⟩:∃u:Nat,z.1=u:=⟨z.1.toNat,by omega⟩
   rw[K]at t ⊢;exact(d u _).2 (.inl t)
  ·exact⟨by dsimp only;omega,by dsimp only;omega,D,(d a _).2 (.inr (.inr ⟨rfl,rfl⟩))⟩
  ·exact⟨by dsimp only;omega,by dsimp only;omega,D,(d b _).2 (.inr (.inl ⟨rfl,rfl⟩))⟩
 ·obtain⟨z,g,i⟩:=s;exact⟨z,(d v z).2 (.inl g),i⟩
 ·exact⟨_,(d a _).2 (.inr (.inr ⟨rfl,rfl⟩)),rfl⟩
theorem SA (x:PY) {c:aP} {P:gE} (h:VM c P) {a b:Nat} {w:Int} (g:a<P.length) (m:b<P.length) (o:1<=w∧w<=15):
  ∃f,mI 1000 x (c,P) a b w=some f∧VM c f∧f.length=P.length∧(∀v u,lX P v u->lX f v u)∧(a≠b->lX f a b):=by
 have p:=h.n24;have n:∀v:Nat,v<P.length->(at' P (v:Int)).length<24:=λv s=>by
  have:=(h.vg.node v s).deg;have e:(at' P (v:Int)).length=(row (c,P) v).length:=rfl;dsimp only at this;omega
 have t:=n a g;have z:=n b m;unfold mI;by_cases d:a=b
 ·subst d;rw[if_pos Z];exact⟨P,rfl,h,rfl,λ_ _ h=>h,λr=>absurd Z r⟩
 rw[if_neg (by omega)];by_cases i:lX P a b
 ·rw[bF ((KV c P a b g (by omega)).1 i)];exact⟨P,rfl,h,rfl,λ_ _ h=>h,λ_=>i⟩
 rw[bF ((KV c P a b g (by omega)).2 i)];unfold oC;rw[if_neg (by simp)];dsimp only;cases q:x.2.2.2.2.2 with
 | true =>
  rw[if_pos Z];have e:at' (P.set (Int.toNat (a:Int)) ([((b:Int),w)]++at' P (a:Int))) (b:Int)=at' P (b:Int):=by
   rw[fT,List.getD_eq_getElem?_getD,List.getElem?_set,if_neg (by simpa using d),fT,List.getD_eq_getElem?_getD]
  rw[e];rw[cC (by omega),cC (by simp;omega),cC (by omega),cC (by simp;omega),cC (by simp;omega),cC (by simp;omega)];obtain⟨j,k,l⟩:=h.add g m d i o (List.Perm.refl _) (List.Perm.refl _);exact⟨_,rfl,j,by simp,k,λ_=>l⟩
 |false=>
  rw[if_neg (by simp)];rw[cC (by omega),cC (by omega),cC (by simp;omega),cC (by simp;omega),cC (by simpa using d),cC (by simp;omega),cC (by simp;omega)];obtain⟨j,k,l⟩:=h.add g m d i o (x:=at' P (a:Int)++[((b:Int),w)]) (y:=at' P (b:Int)++[((a:Int),w)]) List.perm_append_comm List.perm_append_comm;exact⟨_,rfl,j,by simp,k,λ_=>l⟩
theorem Ls (v:Int):wI .i64 (1+v%15)=1+v%15∧1<=1+v%15∧1+v%15<=15:=by
 have:=Int.emod_nonneg v (show(15:Int)≠0 by decide);have:=Int.emod_lt_of_pos v (show(0:Int)<15 by decide);exact⟨wr (by omega) (by omega),by omega,by omega⟩
theorem aaL (x:PY) (c:Nat) (F:1<=c) (m:c<=24):
  OK (λg:GR=>VM g.1 g.2∧g.2.length<=c∧∀v:Nat,1<=v->v<g.2.length->∃u:Nat,u<v∧lX g.2 u v) (mH 1000 x (c:Int)):=by
 unfold mH;obtain⟨⟨d,S⟩,D,h,z,e,q⟩:=Xm x c F m;dsimp only at z h e q;rw[bF D];dsimp only;subst z;have r:=VM.start h e (by omega);refine xE (λs:Int×gE=>∃k:Nat,s.1=k∧1<=k∧k<=d.length∧VM d s.2∧s.2.length=d.length∧∀v:Nat,1<=v->v<k->∃u:Nat,u<v∧lX s.2 u v) (λs=>d.length - s.1.toNat) ?_ 1000 _ ⟨1,rfl,by omega,e,r,by simp,λv l f=>by omega⟩ (by dsimp only;omega);rintro⟨i,P⟩ T ⟨k,B,H,I,p,G,o⟩ j;dsimp only at B p G o;subst B;unfold sJ oB;dsimp only;by_cases A:(k:Int)<(P.length:Int)
 ·rw[if_pos A,wr (by omega) (by omega),bF (NO _ _ (by omega)),bF (sE _ _ (by omega) (by omega)),bF (NO _ _ (by omega)),bF (sE _ _ (by decide) (by decide))];obtain⟨N,O,Q⟩:=Ls (at' x.2.2.1 ((k:Int) - 1));rw[N];generalize C:at' x.2.1 ((k:Int) - 1)%(k:Int)=u;have U:0<=u:=by rw[<-C];exact Int.emod_nonneg _ (by omega)
  have V:u<k:=by rw[<-C];exact Int.emod_lt_of_pos _ (by omega)
  obtain⟨u,rfl⟩:∃n:Nat,u=n:=⟨u.toNat,by omega⟩
  obtain⟨R,E,K,W,L,M⟩:=SA x p (a:=u) (b:=k) (by omega) (by omega) ⟨O,Q⟩;rw[bF E,wr (by omega) (by omega)];refine j _ ⟨k+1,by dsimp only;omega,by omega,by omega,K,by dsimp only;omega,λv l f=> ?_⟩ (by dsimp only;omega);by_cases y:v=k
  ·subst y;exact⟨u,by omega,M (by omega)⟩
  ·obtain⟨J,t,w⟩:=o v l (by omega);exact⟨J,t,L _ _ w⟩
 ·rw[if_neg A];exact⟨_,rfl,p,by dsimp only;omega,λv l f=>o v l (by dsimp only at f;omega)⟩
theorem aao (x:PY) {c:aP} {P:gE} (h:VM c P):OK (λg:GR=>VM g.1 g.2∧g.1=c∧g.2.length=P.length∧∀v u,lX P v u->lX g.2 v u) (mJ 1000 x (c,P)):=by
 unfold mJ;have z:=h.n24;have B:=h.n1;refine xE (λs:Int×gE=>∃k:Nat,s.1=k∧k<=100∧VM c s.2∧s.2.length=P.length∧∀v u,lX P v u->lX s.2 v u) (λs=>200 - s.1.toNat) ?_ 1000 _ ⟨P.length,rfl,by omega,h,rfl,λ_ _ h=>h⟩ (by dsimp only;omega);rintro⟨i,Q⟩ w ⟨k,p,A,f,o,e⟩ d;dsimp only at p f o e;subst p;have done:∀b:Bool,b=false->OK (λg:GR=>VM g.1 g.2∧g.1=c∧g.2.length=P.length∧∀v u,lX P v u->lX g.2 v u) (lK 1000 x (c,P) ((k:Int),Q) w b):=by
  rintro b rfl;exact⟨_,rfl,f,rfl,o,e⟩
 unfold oD;dsimp only;rw[wr (by omega) (by omega)];by_cases l:(k:Int)+1<(x.2.1.length:Int)
 rotate_left
 ·rw[if_neg l];exact done _ Z
 rw[if_pos l];by_cases m:(k:Int)<60
 rotate_left
 ·exact done _ (decide_eq_false m)
 rw[decide_eq_true m];unfold lK;dsimp only;rw[if_pos Z,cC (by omega),bF (sE _ _ (by omega) (by omega)),wr (by omega) (by omega),cC (by omega),bF (sE _ _ (by omega) (by omega)),bF (NO _ _ (by omega)),bF (sE _ _ (by decide) (by decide))];obtain⟨E,F,G⟩:=Ls (at' x.2.2.1 (k:Int));rw[E];generalize r:at' x.2.1 (k:Int)%(P.length:Int)=u;have K:0<=u:=by rw[<-r];exact Int.emod_nonneg _ (by omega)
 have L:u<P.length:=by rw[<-r];exact Int.emod_lt_of_pos _ (by omega)
 obtain⟨u,rfl⟩:∃n:Nat,u=n:=⟨u.toNat,by omega⟩
 generalize q:at' x.2.1 ((k:Int)+1)%(P.length:Int)=t;have I:0<=t:=by rw[<-q];exact Int.emod_nonneg _ (by omega)
 have J:t<P.length:=by rw[<-q];exact Int.emod_lt_of_pos _ (by omega)
 obtain⟨t,rfl⟩:∃n:Nat,t=n:=⟨t.toNat,by omega⟩
 obtain⟨H,y,C,M,D,N⟩:=SA x f (a:=u) (b:=t) (by omega) (by omega) ⟨F,G⟩;rw[bF y,wr (by omega) (by omega)];exact d _ ⟨k+2,by dsimp only;omega,by omega,C,by dsimp only;omega,λv u j=>D _ _ (e v u j)⟩ (by dsimp only;omega)
theorem Mf (x:PY) (a:Nat) (m:1<=a) (c:a<=24):
  OK (λg:GR=>VM g.1 g.2∧g.2.length<=a∧∀v:Nat,1<=v->v<g.2.length->∃u:Nat,u<v∧lX g.2 u v) (gC 1000 x (a:Int)):=by
 unfold gC;obtain⟨⟨s,P⟩,k,o,n,i⟩:=aaL x a m c;obtain⟨⟨j,t⟩,l,b,p,d,h⟩:=aao x o;rw[bF k,bF l];dsimp only at n i b p d h;refine⟨_,rfl,b,by dsimp only;omega,λv r f=> ?_⟩
 obtain⟨u,q,e⟩:=i v r (by dsimp only at f;omega);exact⟨u,q,h _ _ e⟩
end Go.Proofs.YtmdlcmbplnhdnaaGreatDoor
namespace Go.Proofs.YtmdlcmbplnhdnaaGreatDoor
open Go Go.Sx
abbrev val (c:bI) (v x:Nat):Int:=at' (at' c (v:Int)) (x:Int)
def aaV (g:GR) (b:Int) (v:Nat) (a:Int):Prop:=if b = -1 then -1<=a∧a<=((row g v).length:Int) - 1 else 0<=a∧a<=b
instance (g:GR) (top:Int) (v:Nat) (a:Int):Decidable (aaV g top v a):=by unfold aaV;infer_instance
def jT (g:GR):Nat->Int
 |0=>0
 |k+1=>max (jT g k) (at' g.1 (k:Int))
theorem JA {g:GR} (a:VG g):∀k,k<=g.2.length->0<=jT g k∧jT g k<=255
 |0,_=>by simp[jT]
 |k+1,h=>by
  have b:=JA a k (by omega);have c:0<=at' g.1 (k:Int)∧at' g.1 (k:Int)<=255:=(a.node k (by omega)).id;simp only[jT];omega
abbrev CG:=DC
def CS (x:CG):Prop:=(0<=x.2.2.2.1∧x.2.2.2.1<=100000)∧(0<=x.2.2.2.2.1∧x.2.2.2.2.1<=100000)∧(0<=x.2.2.2.2.2∧x.2.2.2.2.2<=100000)
def lo (g:GR) (x:CG) (v:Nat):Int:=if x.2.1=2 then 0 else if x.2.1=3 then -1 else x.2.2.1
def hi (g:GR) (x:CG) (v:Nat):Int:=if x.2.1=2 then 1 else if x.2.1=3 then((row g v).length:Int) - 1 else x.2.2.2.1+x.2.2.2.2.1*(g.2.length:Int)+x.2.2.2.2.2*jT g g.1.length
structure Au (g:GR) (c:bI) (vars:List CG):Prop where
 len:c.length=g.2.length
 row:∀v,v<g.2.length->(at' c (v:Int)).length=vars.length
 ok:∀v,v<g.2.length->∀x,x<vars.length->lo g (at' vars (x:Int)) v<=val c v x∧val c v x<=hi g (at' vars (x:Int)) v
def Er (a b:Nat):Nat:=(BitVec.ofInt 32 (a:Int) &&& ~~~ BitVec.ofInt 32 (b:Int)).toNat
theorem NY (a b:Nat):Er a b<4294967296:=(BitVec.ofInt 32 (a:Int) &&& ~~~ BitVec.ofInt 32 (b:Int)).isLt
theorem Gz {a i:Nat} (b:a<4294967296) (h:a.testBit i=true):i<32:=by
 apply Classical.byContradiction;intro c;rw[Nat.testBit_lt_two_pow (Nat.lt_of_lt_of_le b (Nat.pow_le_pow_right (n:=2) (by omega) (show 32<=i by omega)))]at h;cases h
theorem KH {a b:Nat} (d:a<4294967296) (e:b<4294967296) (i:Nat):(Er a b).testBit i=(a.testBit i && !b.testBit i):=by
 have:=BitVec.getLsbD_and (x:=BitVec.ofInt 32 (a:Int)) (y:= ~~~ BitVec.ofInt 32 (b:Int)) (i:=i);rw[BitVec.getLsbD_not]at this;have h:(Er a b).testBit i=((Ns (a:Int)).testBit i&&(decide (i<32) && !(Ns (b:Int)).testBit i)):=this;rw[xB d,xB e]at h;rw[h];cases c:a.testBit i with
 |false=>simp
 |true=>simp[Gz d c]
theorem NP (a b:Nat):tH .u32 (a:Int) (b:Int)=(Er a b:Int):=Lw _ (NY a b)
theorem CW {a b:Nat} (c:a<4294967296) (d:b<4294967296):dK .u32 (a:Int) (b:Int)=((a &&& b:Nat):Int):=by rw[LW,xB c,xB d]
theorem ags {a b:Nat} (c:a<4294967296) (d:b<4294967296):LX .u32 (a:Int) (b:Int)=((a ||| b:Nat):Int):=by rw[abU,xB c,xB d]
theorem abl {a b:Nat} (c:a<4294967296) (d:b<4294967296):a ||| b<4294967296:=Nat.or_lt_two_pow (n:=32) c d
theorem Qj {a b:Nat} (c:a<4294967296):a &&& b<4294967296:=Nat.lt_of_le_of_lt Nat.and_le_left c
theorem Ql {a k:Nat} (c:a<4294967296) (b:k<32):LX .u32 (a:Int) (BG .u32 1 (k:Int))=((a ||| 2^k:Nat):Int):=by rw[abb b,ags c (HB b)]
theorem SB (p:Nat->Bool) {k:Nat} (a:k<=32):AL p k<4294967296:=Nat.lt_of_lt_of_le (Ol p k) (Nat.pow_le_pow_right (n:=2) (by omega) a)
theorem aiI {i:Nat} (h:i<1000000):wI .i64 ((i:Int)+1)=(i:Int)+1:=wr (by omega) (by omega)
theorem VG.to {g:GR} (c:VG g) {v i:Nat} (e:v<g.2.length) (d:i<(row g v).length):∃u:Nat,u<g.2.length∧(fY (row g v) i).1=(u:Int):=by
 obtain⟨u,a,b,_⟩:=c.port e d;exact⟨u,a,b⟩
theorem YY {n i:Nat}:(2^n - 1).testBit i=decide (i<n):=Nat.testBit_two_pow_sub_one n i
def d0 (g:GR) (c:bI) (d v:Nat):Int:=if d.testBit v=true then at' (at' c (v:Int)) 0 else if v=0 then 0 else(g.2.length:Int)
def start (g:GR) (c:bI) (d:Nat):aP:=(List.range g.2.length).map (d0 g c d)
def rM:List CG:=[(ByteArray.mk #[100],1,0,0,1,0),(ByteArray.mk #[112],3,0,0,0,0)]
theorem MM {a:Type} [Inhabited a] (l:List a) (x:a) {i:Nat} (b:i<l.length+1):at' (l++[x]) (i:Int)=if i<l.length then at' l (i:Int)else x:=by
 rw[fT,fT];by_cases h:i<l.length
 ·rw[if_pos h,List.getD_eq_getElem?_getD,List.getD_eq_getElem?_getD,List.getElem?_append_left h]
 ·have:i=l.length:=by omega
  subst this;rw[if_neg h];simp
def Vi (g:GR) (a:List CG) (v:Nat) (l:aP):Prop:=∀x,x<l.length->lo g (at' a (x:Int)) v<=at' l (x:Int)∧at' l (x:Int)<=hi g (at' a (x:Int)) v
theorem TQ {g:GR} (G:VG g) (d:List CG) (f:aP) (ht:d.length<=900) (U:∀x,x<d.length->CS (at' d (x:Int)) ∧ -100000<=(at' d (x:Int)).2.2.1∧(at' d (x:Int)).2.2.1<=(at' d (x:Int)).2.2.2.1):
  OK (λc=>Au g c d) (mM 1000 g d f):=by
 have Q:=G.n24;have C:=G.len;have P:mM 1000 g d f=qE 1000 g d f (jT g g.2.length):=by
  unfold mM;refine eO (F:=λk:Nat=>((jT g k,(k:Int)):fH)) g.2.length (λk B hk=> ?_) (λB=> ?_) 1000 (by omega)
  ·unfold tZ;simp only;rw[if_pos (by omega),cC (by omega),wr (by omega) (by omega)];rfl
  ·unfold tZ;simp only;rw[if_neg (by omega)]
 rw[P];obtain⟨M,X⟩:=JA G g.2.length (by omega);unfold qE;have J:=zT (step:=jV 1000 g d f (jT g g.2.length)) (K:=λx=>some x.1) g.2.length (λv x=>x.2=(v:Int)∧x.1.length=v∧∀w,w<v->(at' x.1 (w:Int)).length=d.length∧Vi g d w (at' x.1 (w:Int))) (λv x B t q=> ?_) (λx B q=> ?_) 1000 (([]:bI),(0:Int)) ⟨rfl,rfl,λw V=>by omega⟩ (by omega)
 ·obtain⟨⟨c,i⟩,⟨_,s,p⟩,I⟩:=J;exact⟨c,I,s,λv t=>(p v t).1,λv t x D=>(p v t).2 x (by rw[(p v t).1];exact D)⟩
 ·obtain⟨c,i⟩:=x;obtain⟨rfl,s,p⟩:=q;simp only at s p;have L:(at' g.2 (v:Int)).length<g.2.length:=(G.node v t).deg;unfold jV;simp only;rw[if_pos (by omega)];have E:=zT (step:=nJ 1000 g d f (jT g g.2.length) (c,(v:Int)) B) (K:=λy=>B (c++[y.1],(v:Int)+1)) d.length (λx y=>y.2=(x:Int)∧y.1.length=x∧Vi g d v y.1) (λx y n D q=> ?_) (λy n q=> ?_) 1000 (([]:aP),(0:Int)) ⟨rfl,rfl,λx D=>by simp at D⟩ (by omega)
  ·obtain⟨⟨l,j⟩,⟨_,h,u⟩,I⟩:=E;refine⟨(c++[l],(v:Int)+1),⟨by simp,by simp[s],λw V=> ?_⟩,I⟩
   simp only;rw[MM c l (by omega),s];by_cases e:w<v
   ·rw[if_pos e];exact p w e
   ·rw[if_neg e];have:w=v:=by omega
    subst this;exact⟨h,u⟩
  ·obtain⟨l,j⟩:=y;obtain⟨rfl,h,u⟩:=q;simp only at h u;obtain⟨⟨s1,N,O⟩,s4,s5⟩:=U x D;have o:∀a b:Int,a=lo g (at' d (x:Int)) v->b=hi g (at' d (x:Int)) v -> -100000<=a->a<=b+1->b<=100000000->(a<=b∨(a = -1∧b = -1))->∃H,(H.2=((x+1:Nat):Int)∧H.1.length=x+1∧Vi g d v H.1)∧nH 1000 d f (c,(v:Int)) (l,(x:Int)) n (a,b)=n H:=by
    intro a b R T q1 q2 q3 q4;have S:a<=b:=by omega
    unfold nH;simp only;have w1:wI .i64 ((v:Int)*(d.length:Int))=(v:Int)*(d.length:Int):=by
     have Y:0<=(v:Int)*(d.length:Int):=Int.mul_nonneg (by omega) (by omega);have p2:(v:Int)*(d.length:Int)<=24*900:=Int.mul_le_mul (by omega) (by omega) (by omega) (by omega);exact wr (by omega) (by omega)
    have Y:0<=(v:Int)*(d.length:Int):=Int.mul_nonneg (by omega) (by omega);have p2:(v:Int)*(d.length:Int)<=24*900:=Int.mul_le_mul (by omega) (by omega) (by omega) (by omega);rw[w1,wr (x:=(v:Int)*(d.length:Int)+(x:Int)) (by omega) (by omega),NO _ _ (by omega),bF Z,wr (x:=b - a) (by omega) (by omega),wr (x:=b - a+1) (by omega) (by omega),sE _ _ (by omega) (by omega),bF Z];have r1:=Int.emod_nonneg (at' f ((v:Int)*(d.length:Int)+(x:Int))) (b:=b - a+1) (by omega);have r2:=Int.emod_lt_of_pos (at' f ((v:Int)*(d.length:Int)+(x:Int))) (b:=b - a+1) (by omega);generalize at' f ((v:Int)*(d.length:Int)+(x:Int))%(b - a+1)=r at r1 r2;rw[wr (x:=a+r) (by omega) (by omega),cC (by simp;omega),wr (by omega) (by omega)];refine⟨_,⟨by simp,by simp[h],λz W=> ?_⟩,rfl⟩
    simp only[List.length_append,List.length_cons,List.length_nil,h]at W;simp only;rw[MM l _ (by omega),h];by_cases e:z<x
    ·rw[if_pos e];exact u z (by omega)
    ·rw[if_neg e];have:z=x:=by omega
     subst this;rw[<-R,<-T];omega
   unfold nJ;simp only;rw[if_pos (by omega),cC (by omega),cC (by omega),cC (by omega),cC (by omega),cC (by omega)];by_cases m:(at' d (x:Int)).2.1=2
   ·rw[if_pos m];exact o 0 1 (by unfold lo;rw[if_pos m]) (by unfold hi;rw[if_pos m]) (by omega) (by omega) (by omega) (by omega)
   ·rw[if_neg m];by_cases A:(at' d (x:Int)).2.1=3
    ·rw[if_pos A,cC (by omega),wr (by omega) (by omega)];exact o (-1) _ (by unfold lo;rw[if_neg m,if_pos A]) (by unfold hi;rw[if_neg m,if_pos A]) (by omega) (by omega) (by omega) (by omega)
    ·rw[if_neg A];have q1:0<=(at' d (x:Int)).2.2.2.2.1*(g.2.length:Int):=Int.mul_nonneg N.1 (by omega);have q2:(at' d (x:Int)).2.2.2.2.1*(g.2.length:Int)<=100000*24:=Int.mul_le_mul N.2 (by omega) (by omega) (by omega);have q3:0<=(at' d (x:Int)).2.2.2.2.2*jT g g.2.length:=Int.mul_nonneg O.1 M;have q4:(at' d (x:Int)).2.2.2.2.2*jT g g.2.length<=100000*255:=Int.mul_le_mul O.2 X M (by omega);rw[wr (x:=(at' d (x:Int)).2.2.2.2.1*(g.2.length:Int)) (by omega) (by omega),wr (x:=(at' d (x:Int)).2.2.2.2.2*jT g g.2.length) (by omega) (by omega),wr (x:=(at' d (x:Int)).2.2.2.1+(at' d (x:Int)).2.2.2.2.1*(g.2.length:Int)) (by omega) (by omega),wr (by omega) (by omega)];exact o _ _ (by unfold lo;rw[if_neg m,if_neg A]) (by unfold hi;rw[if_neg m,if_neg A,C]) (by omega) (by omega) (by omega) (by omega)
  ·obtain⟨l,j⟩:=y;obtain⟨rfl,h,u⟩:=q;simp only at h u;unfold nJ yO;simp only;rw[if_neg (by omega),cC (by simp;omega),wr (by omega) (by omega)]
 ·obtain⟨c,i⟩:=x;obtain⟨rfl,s,p⟩:=q;unfold jV tY;simp only;rw[if_neg (by omega)]
def low (a b:Int):Int:=if 0<=b∧(a<0∨b<a)then b else a
end Go.Proofs.YtmdlcmbplnhdnaaGreatDoor