/- Models and proofs. Conditions: none. -/
import Derived.Test.YtahgemjmgopleaaGreatDoorZCFo5
import Derived.Test.YtahgemjmgopleaaGreatDoorZCFo4
import Derived.Test.YtahgemjmgopleaaGreatDoorZCFo2
set_option linter.unusedVariables false
set_option linter.unusedSimpArgs false
set_option maxHeartbeats 4000000
set_option maxRecDepth 20000
namespace Go.Gx
open Go Go.Sx Go.RowKit
mutual
def Jz (k:Nat):GV->GV
 | .ptr h o=> .ptr (k+h) o
 | .sl h o l s=> .sl (k+h) o l s
 | .map h=> .map (k+h)
 | .fn f a b=> .fn f (XS k a) (XS k b)
 | .agg cs=> .agg (XS k cs)
 | .tup vs=> .tup (XS k vs)
 | .int a b=> .int a b
 | .bool b=> .bool b
 | .str a b=> .str a b
 | .pnil=> .pnil
 | .snil=> .snil
 | .fnil=> .fnil
 | .inil=> .inil
 | .un=> .un
 | .bad=> .bad
 | .opn h=> .opn (k+h)
def XS (k:Nat):List GV->List GV
 | []=>[]
 |v::r=>Jz k v::XS k r
end
theorem QK (k:Nat):∀(l:List GV) (i:Nat),(XS k l)[i]? = (l[i]?).map (Jz k)
 | [],i=>rfl
 |v::r,0=>rfl
 |v::r,i+1=>by simpa [XS]using QK k r i
theorem Hz (k:Nat):∀(l:List GV),(XS k l).length=l.length
 | []=>rfl
 |v::r=>by simp[XS,Hz k r]
def shO (k:Nat):GO->GO
 | .cells cs=> .cells (XS k cs)
 | .mp es=> .mp (es.map λe=>(Jz k e.1,Jz k e.2))
def Dk (k:Nat) (l:Ov):Ov:={l with o:=shO k l.o}
theorem Rl.shift {y e:fC} {k:Nat} (c:∀h l,y h=some l->e (k+h)=some (Dk k l)) {g:GV} {v:Value} (h:Rl y g v):Rl e (Jz k g) v:=by
 have d:∀{u:List GV} {j:fP},(∀(i:Nat) g v,u[i]? = some g->j[i]? = some v->Rl e (Jz k g) v)->∀(i:Nat) g v,(XS k u)[i]? = some g->j[i]? = some v->Rl e g v:=by
  intro u j D i g v x E;rw[QK]at x;obtain⟨z,A,rfl⟩:=Option.map_eq_some_iff.1 x;exact D i z v A E
 induction h with
 |int a n=>simp only[Jz];exact .int a n
 |bool b=>simp only[Jz];exact .bool b
 |str s=>simp only[Jz];exact .str s
 |ptr t h=>simp only[Jz];exact .ptr (l:=Dk k _) t (c _ _ h)
 |pnil=>simp only[Jz];exact .pnil
 |sl h C B=>simp only[Jz];exact .sl (l:=Dk k _) (c _ _ h) C B
 |snil=>simp only[Jz];exact .snil
 |map h=>simp only[Jz];exact .map (l:=Dk k _) (c _ _ h)
 |fn f m w o G q r=>simp only[Jz];exact .fn f (by rw[Hz];exact m) (d q) (by rw[Hz];exact o) (d r)
 |fnil=>simp only[Jz];exact .fnil
 |inil=>simp only[Jz];exact .inil
 |agg m w o p=>simp only[Jz];exact .agg (by rw[Hz];exact m) (d p) o
 |tup m w p=>simp only[Jz];exact .tup (by rw[Hz];exact m) (d p)
 |un=>simp only[Jz];exact .un
 |bad v=>simp only[Jz];exact .bad v
 |opn v h F=>simp only[Jz];exact .opn (l:=Dk k _) v (c _ _ h) F
abbrev OL:=List (Nat×Nat×GO)
def XR:OL->Nat->Option (Nat×GO)
 | [],_=>none
 |x::r,h=>if h=x.1 then some x.2 else XR r h
theorem Qv {b:OL} {h:Nat} {p:Nat×GO} (a:XR b h=some p):(h,p)∈b:=by
 induction b with
 |nil=>cases a
 |cons x r c=>
  simp only[XR]at a;split at a
  ·rename_i e;cases a;subst e;exact zAb
  ·exact zAf _ (c a)
noncomputable def SY (k:Nat) (t:Tr (Nat×GO)):OL->Tr (Nat×GO)
 | []=>t
 |x::r=>(SY k t r).set (some (k+x.2.1,shO k x.2.2)) (k+x.1)
noncomputable def adr:OL->Tr (Nat×GO)
 | []=> .lf
 |x::r=>(adr r).set (some x.2) x.1
theorem GE:∀(a:OL) (h:Nat),(adr a).get h=XR a h
 | [],h=>rfl
 |x::r,h=>by
  show((adr r).set (some x.2) x.1).get h=_;rw[uC];simp only[XR];split
  ·rfl
  ·exact GE r h
theorem Nl (k:Nat) (t:Tr (Nat×GO)):∀(b:OL) (h:Nat),(SY k t b).get h=if k<=h then(match XR b (h - k)with|some p=>some (k+p.1,shO k p.2)|none=>t.get h)else t.get h
 | [],h=>by simp[SY,XR]
 | x :: r, h => by
  show((SY k t r).set (some (k+x.2.1,shO k x.2.2)) (k+x.1)).get h=_;rw[uC,Nl k t r h];by_cases e:h=k+x.1
  ·subst e;rw[if_pos Z,if_pos (by omega)];simp[XR]
  ·rw[if_neg e];by_cases a:k<=h
   ·rw[if_pos a,if_pos a];simp only[XR];rw[if_neg (show¬h - k=x.1 by omega)]
   ·rw[if_neg a,if_neg a]
noncomputable def HY (n:Nat) (a:OL):GH:=⟨n,adr a⟩
noncomputable def GH.load (H:GH) (n:Nat) (a:OL):GH:=⟨H.n+n,SY H.n H.t a⟩
section
variable {gs:BV} {w0:fR gs} {w w':World} {ρ ρ2:fC} {H:GH} {n:Nat} {os:OL}
theorem iQ {H:GH} {h:Nat} {o:GO}:H.get h=some o↔∃v,H.t.get h=some (v,o):=by
 unfold GH.get;cases c:H.t.get h with
 |none=>simp[ob]
 |some p=>obtain⟨a,b⟩:=p;simp[ob]
theorem uA {H:GH} {h v:Nat}:H.ver h=some v↔∃o,H.t.get h=some (v,o):=by
 unfold GH.ver;cases c:H.t.get h with
 |none=>simp[ob]
 |some p=>obtain⟨a,b⟩:=p;simp[ob]
theorem gH.sub {d:GH} (R:gH w0 ρ H w) (z:d.n=H.n) (m:∀h p,d.t.get h=some p->H.t.get h=some p):gH w0 ρ d w:=by
 have g:∀h o,d.get h=some o->H.get h=some o:=λh o i=>by
  obtain⟨v,j⟩:=iQ.1 i;exact iQ.2 ⟨v,m _ _ j⟩
 refine⟨R.ext,λh o i=>R.live h o (g h o i),λh q o y l u e f=>R.inj h q o y l u (g _ _ e) (g _ _ f),λh r=>R.fresh h (by omega),λh r=>R.dense h (by omega),λh v l j s=> ?_,R.env⟩
 obtain⟨o,k⟩:=uA.1 j;obtain⟨x,a,b,c⟩:=R.vers h v l (uA.2 ⟨o,m _ _ k⟩) s;refine⟨x,a,b,?_⟩
 have e:=iQ.2 ⟨v,k⟩;have f:=g _ _ e;rw[c]at f;cases f;exact e
theorem AU.shift {l:Ov} {o:GO} {f:fC} {k:Nat} (d:∀h l,ρ2 h=some l->f (k+h)=some (Dk k l)) (h:AU ρ2 w l o):AU f w (Dk k l) (shO k o):=by
 cases o with
 |cells z=>
  obtain⟨j,T,r,s,t,y⟩:=h;refine⟨j,T,r,s,by rw[Hz];exact t,λi g e=> ?_⟩
  rw[QK]at e;obtain⟨p,q,rfl⟩:=Option.map_eq_some_iff.1 e;obtain⟨v,a,b,c⟩:=y i p q;exact⟨v,a,b.shift d,c⟩
 |mp A=>
  obtain⟨x,u,r,s,t⟩:=h;refine⟨x,u,r,by simpa [shO]using s,λi g e=> ?_⟩
  rw[List.getElem?_map]at e;obtain⟨p,q,rfl⟩:=Option.map_eq_some_iff.1 e;obtain⟨m,a,b,c⟩:=t i p q;exact⟨m,a,b.shift d,c.shift d⟩
theorem gH.join {Y:BV} {hb:KO Y w λ_=>False} (R:gH w0 ρ H w) (M:gH (fR.of w hb) ρ2 (HY n os) w'):
  ∃s:fC,ρ.le s∧gH w0 s (H.load n os) w'∧∀g v,Rl ρ2 g v->Rl s (Jz H.n g) v:=by
 let s:fC:=λh=>if h<H.n then ρ h else(ρ2 (h - H.n)).map (Dk H.n);have G:ρ.le s:=λh l f=>by
  have ac:h<H.n:=by
   rcases zAo h H.n with q|q
   ·exact q
   ·rw[R.fresh h q]at f;cases f
  show(if h<H.n then ρ h else _)=_;rw[if_pos ac];exact f
 have K:∀h l,ρ2 h=some l->s (H.n+h)=some (Dk H.n l):=λh l f=>by
  show(if H.n+h<H.n then _ else _)=_;rw[if_neg (by omega),show H.n+h - H.n=h by omega,f];rfl
 have k:∀h,h<H.n->s h=ρ h:=λh u=>by show(if h<H.n then ρ h else _)=_;rw[if_pos u]
 have d:∀h,H.n<=h->s h=(ρ2 (h - H.n)).map (Dk H.n):=λh u=>by show(if h<H.n then ρ h else _)=_;rw[if_neg (by omega)]
 have J:∀h,H.n<=h->H.t.get h=none:=λh u=>by
  cases y:H.t.get h with
  |none=>rfl
  |some p=>exact absurd (R.lt (iQ.2 ⟨p.1,y⟩)) (by omega)
 have X:∀h,h<H.n->(H.load n os).t.get h=H.t.get h:=λh u=>by
  show(SY H.n H.t os).get h=_;rw[Nl,if_neg (by omega)]
 have gh:∀h p,H.n<=h->(H.load n os).t.get h=some p->∃x,(HY n os).t.get (h - H.n)=some x∧p=(H.n+x.1,shO H.n x.2):=λh p u hp=>by
  have A:(SY H.n H.t os).get h=some p:=hp;rw[Nl,if_pos u,J h u]at A;cases hk:XR os (h - H.n)with
  |none=>rw[hk]at A;cases A
  |some x=>rw[hk]at A;cases A;exact⟨x,(GE os _).trans hk,rfl⟩
 have W:Oo w w':=M.ext.ext;have L:∀l:Ov,(fR.of w hb).mine l.b->w.heap.size<=l.b:=λl h=>by
  rcases h with h|h
  ·exact h
  ·exact h.elim
 have r:∀h o,h<H.n->(H.load n os).get h=some o->∃l,ρ h=some l∧w0.mine l.b∧AU ρ w l o∧H.get h=some o:=λh o u y=>by
  obtain⟨v,N⟩:=iQ.1 y;rw[X h u]at N;have z:=iQ.2 ⟨v,N⟩;obtain⟨l,a,b,c⟩:=R.live h o z;exact⟨l,a,b,c,z⟩
 have m:∀h o,H.n<=h->(H.load n os).get h=some o->∃l O,ρ2 (h - H.n)=some l∧w.heap.size<=l.b∧AU ρ2 w' l O∧o=shO H.n O∧(HY n os).get (h - H.n)=some O:=λh o u y=>by
  obtain⟨v,N⟩:=iQ.1 y;obtain⟨x,E,e⟩:=gh h _ u N;cases e;have z:(HY n os).get (h - H.n)=some x.2:=iQ.2 ⟨x.1,E⟩;obtain⟨l,a,b,c⟩:=M.live _ _ z;exact⟨l,x.2,a,L l b,c,rfl,z⟩
 refine⟨s,G,⟨R.ext.trans W,λh o y=> ?_,λh B o U l l' V E f j F=> ?_,λh u=> ?_,λh u=> ?_,λh v l N f=> ?_,λi v e=>let ⟨l,a,b⟩:=R.env i v e;⟨l,G _ _ a,b⟩⟩,λg v y=>y.shift K⟩
 ·rcases zAo h H.n with q|q
  ·obtain⟨l,a,b,c,_⟩:=r h o q y;exact⟨l,by rw[k h q];exact a,b,c.move G (W.block _ c.lt)⟩
  ·obtain⟨l,O,a,b,c,rfl,_⟩:=m h o q y;exact⟨Dk H.n l,by rw[d h q,a];rfl,.inl (zB3 R.ext.size b),c.shift K⟩
 ·rcases zAo h H.n with q|q<;>rcases zAo B H.n with I|I
  ·obtain⟨l1,C,_,_,P⟩:=r h o q V;obtain⟨T,D,_,_,Q⟩:=r B U I E;rw[k h q,C]at f;rw[k B I,D]at j;cases f;cases j;exact R.inj h B o U _ _ P Q C D F
  ·obtain⟨l1,C,_,c1,P⟩:=r h o q V;obtain⟨T,O,D,b2,_,rfl,Q⟩:=m B U I E;rw[k h q,C]at f;rw[d B I,D]at j;cases f;cases j;have:=c1.lt;simp only[Dk]at F;omega
  ·obtain⟨l1,o1,C,b1,_,rfl,P⟩:=m h o q V;obtain⟨T,D,_,c2,Q⟩:=r B U I E;rw[d h q,C]at f;rw[k B I,D]at j;cases f;cases j;have:=c2.lt;simp only[Dk]at F;omega
  ·obtain⟨l1,o1,C,b1,_,rfl,P⟩:=m h o q V;obtain⟨T,O,D,b2,_,rfl,Q⟩:=m B U I E;rw[d h q,C]at f;rw[d B I,D]at j;cases f;cases j;have:=M.inj _ _ _ _ _ _ P Q C D F;omega
 ·have aa:H.n+n<=h:=u;rw[d h (by omega),M.fresh (h - H.n) (by show n<=_;omega)];rfl
 ·have aa:h<H.n+n:=u;rcases zAo h H.n with q|q
  ·obtain⟨l,f⟩:=R.dense h q;exact⟨l,by rw[k h q];exact f⟩
  ·obtain⟨l,f⟩:=M.dense (h - H.n) (by show _<n;omega);exact⟨Dk H.n l,by rw[d h q,f];rfl⟩
 ·obtain⟨o,S⟩:=uA.1 N;rcases zAo h H.n with q|q
  ·rw[X h q]at S;rw[k h q]at f;obtain⟨lv,a,b,c⟩:=R.vers h v l (uA.2 ⟨o,S⟩) f;have y:=iQ.2 ⟨v,S⟩;obtain⟨l',j,_,ck⟩:=R.live h o y;rw[f]at j;cases j;refine⟨lv,G _ _ a,by rw[W.block _ ck.lt];exact b,?_⟩
   obtain⟨v2,ad⟩:=iQ.1 c;exact iQ.2 ⟨v2,by rw[X h q];exact ad⟩
  ·obtain⟨x,E,e⟩:=gh h _ q S;cases e;rw[d h q]at f;obtain⟨T,ab,rfl⟩:=Option.map_eq_some_iff.1 f;obtain⟨lv,a,b,c⟩:=M.vers (h - H.n) x.1 T (uA.2 ⟨x.2,E⟩) ab;refine⟨Dk H.n lv,K _ _ a,b,?_⟩
   have h3:(HY n os).get (h - H.n)=some x.2:=iQ.2 ⟨x.1,E⟩;rw[c]at h3;have h4:=Option.some.inj h3;exact iQ.2 ⟨_,by rw[S,<-h4];rfl⟩
end
theorem Zp {a b:Nat×Nat} (h:TE a b=true):a=b:=by
 obtain⟨f,d⟩:=a;obtain⟨g,e⟩:=b;unfold TE at h;cases c:Nat.beq d e with
 |false=>simp[c]at h
 |true=>
  simp only[c,cond_true]at h;rw[zA2 h,zA2 c]
theorem Np {c:fC} {n l:Nat} {x:ByteArray} (a:n=mD (bT x)) (b:l=(bT x).length):Rl c (.str n l) (.string x):=by
 rw[a,b];exact .str x
def isS (a:List GV) (p:Nat×Nat):Bool:=List.casesOn (motive:=λ_=>Bool) a false λu r=>List.casesOn (motive:=λ_=>Bool) r (Option.casesOn (motive:=λ_=>Bool) (GV.asStr u) false λs=>TE s p) λ_ _=>false
theorem UA {b:List GV} {p:Nat×Nat} (h:isS b p=true):b=[.str p.1 p.2]:=by
 cases b with
 |nil=>cases h
 | cons u r =>
  cases r with
  |cons _ _=>cases h
  | nil =>
   cases a:GV.asStr u with
   |none=>simp[isS,a]at h
   |some s=>
    have:TE s p=true:=by simpa [isS,a]using h
    rw[qZ a,Zp this]
noncomputable section
def aag (H:GH) (a:List Nat):Option OL:=List.rec (motive:=λ_=>Option OL) (some []) (λh _ b=>ob (H.t.get h) λp=>ob b λr=>some ((h,p.1,p.2)::r)) a
theorem Ku {H:GH}:∀{c:List Nat} {b:OL},aag H c=some b->∀x∈b,H.t.get x.1=some x.2
 | [],b,h,x,a=>by cases h;cases a
 |h0::c,b,h,x,a=>by
  obtain⟨p,d,h⟩:=aF.1 (show ob (H.t.get h0) (λp=>ob (aag H c) λr=>some ((h0,p.1,p.2)::r))=some b from h);obtain⟨r,e,h⟩:=aF.1 h;cases h;rcases zAn.1 a with rfl|a
  ·exact d
  ·exact Ku e x a
def SC (T:IY) (G:GP) (a f:Nat) (d:List GV) (b:List Nat):Option (GV×Nat×OL):=ob (HT T G a f d H0) λr=>ob (aag r.2 b) λc=>some (r.1,r.2.n,c)
def shK {R:Type} (k:Nat) (v:GV) (f:GV->R):R:=GV.casesOn (motive_1:=λ_=>R) v (λa b=>f (.int a b)) (λb=>f (.bool b)) (λa b=>f (.str a b)) (λh o=>sn (Nat.add k h) λh=>f (.ptr h o)) (f .pnil) (λh o l s=>sn (Nat.add k h) λh=>f (.sl h o l s)) (f .snil) (λh=>sn (Nat.add k h) λh=>f (.map h)) (λa b c=>f (Jz k (.fn a b c))) (f .fnil) (f .inil) (λd=>f (Jz k (.agg d))) (λe=>f (Jz k (.tup e))) (f .un) (f .bad) (λh=>sn (Nat.add k h) λh=>f (.opn h))
theorem aaz {R:Type} (k:Nat) (v:GV) (f:GV->R):shK k v f=f (Jz k v):=by
 cases v<;>simp[shK,xP,Jz]
def afO {R:Type} (k:Nat) (l:List GV):(List GV->R)->R:=List.rec (motive:=λ_=>(List GV->R)->R) (λf=>f []) (λx _ a f=>shK k x λy=>a λr=>f (y::r)) l
theorem Wi {R:Type} (k:Nat):∀(l:List GV) (f:List GV->R),afO k l f=f (XS k l)
 | [],f=>rfl
 |x::l,f=>by
  show shK k x (λy=>afO k l λr=>f (y::r))=_;rw[aaz,Wi k l];rfl
def afP {R:Type} (k:Nat) (o:GO) (f:GO->R):R:=GO.casesOn (motive:=λ_=>R) o (λa=>afO k a λa=>f (.cells a)) (λb=>f (shO k (.mp b)))
theorem adw {R:Type} (k:Nat) (o:GO) (f:GO->R):afP k o f=f (shO k o):=by
 cases o with
 |cells a=>exact Wi k a _
 |mp b=>rfl
def afF {R:Type} (k:Nat) (t:Tr (Nat×GO)) (b:OL):(Tr (Nat×GO)->R)->R:=List.rec (motive:=λ_=>(Tr (Nat×GO)->R)->R) (λf=>f t) (λx _ a f=>a λt=>sn (Nat.add k x.2.1) λv=>sn (Nat.add k x.1) λh=>afP k x.2.2 λo=>t.setK (some (v,o)) h f) b
theorem VZ {R:Type} (k:Nat) (t:Tr (Nat×GO)):∀(a:OL) (f:Tr (Nat×GO)->R),afF k t a f=f (SY k t a)
 | [],f=>rfl
 |x::a,f=>by
  show afF k t a (λt=>sn (Nat.add k x.2.1) λv=>sn (Nat.add k x.1) λh=>afP k x.2.2 λo=>t.setK (some (v,o)) h f)=_;rw[VZ k t a];simp only[xP,adw,EV];rfl
def OX (g:GV) (n:Nat) (a:OL) (H:GH):Option (GV×GH):=sn H.n λk=>shK k g λg=>afF k H.t a λt=>sn (Nat.add k n) λm=>some (g,⟨m,t⟩)
theorem ZW (g:GV) (n:Nat) (a:OL) (H:GH):OX g n a H=some (Jz H.n g,H.load n a):=by
 unfold OX;simp only[xP,aaz,VZ];rfl
theorem Qy {P:Program} {T:IY} {G:GP} {gs gs2:BV} (j:gs2.obs=gs.obs) (d:gs2.env=[]) (M:Mn T G.tab) (L:∀m:fR gs2,U_ P G T.fns m) {a f n:Nat} {y:List GV} {z:List Value} {O:List Nat} {g:GV} {c:OL} (i:SC T G a f y O=some (g,n,c)) (C:aU P f)
  {m:fR gs} {w:World} {F:fC} {H o:GH} {B:GV} (Q:pO (λ_=>none) y z) (h:OX g n c H=some (B,o)) (R:gH m F H w):jR P m F f z w B o:=by
 rw[ZW]at h;cases h;obtain⟨r,D,i⟩:=aF.1 (show ob (HT T G a f y H0) _=some (g,n,c)from i);obtain⟨S,s,i⟩:=aF.1 i;cases i;rw[CY M]at D;have b:KO gs2 w λ_=>False:=λp t=>⟨(R.glo p (j▸t)).1,id⟩
 rcases Ja L (H':=r.2) (g:=r.1) D (gH.start (fR.of w b) d) Q with⟨v,E,l,k,_⟩|⟨_,N⟩
 ·have:=C z.toArray w;rw[show(fR.of w b).w=w from rfl,this]at k;cases k
 ·refine .inr ⟨C _ w,N.mono ?_⟩;rintro e E ⟨v,A,rfl,_,I,u⟩;have J:gH (fR.of w b) A (HY r.2.n c) E:=I.sub Z λh p t=>by
   have:XR c h=some p:=(GE c h).symm.trans t;exact Ku s _ (Qv this)
  obtain⟨l,q,K,x⟩:=R.join J;exact⟨v,l,rfl,q,K,x _ _ u⟩
theorem OY {P:Program} {T:IY} {G:GP} {gs:BV} (y:Mn T G.tab) (x:∀H:fR gs,U_ P G T.fns H) {a f n:Nat} {m:List GV} {o:List Value} {D:List Nat} {g:GV} {j:OL} (d:SC T G a f m D=some (g,n,j)) (z:aU P f)
  (E:pO (λ_=>none) m o) (B:gs.env=[]) (b:fR gs):Calls P f o.toArray b.w λe q=>∃v c,e = .returned v∧gH b c (HY n j) q∧Rl c g v:=by
 obtain⟨r,t,d⟩:=aF.1 (show ob (HT T G a f m H0) _=some (g,n,j)from d);obtain⟨F,k,d⟩:=aF.1 d;cases d;rw[CY y]at t;rcases Ja x (H':=r.2) (g:=r.1) t (gH.start b B) E with⟨v,q,c,i,_⟩|⟨_,A⟩
 ·have:=z o.toArray b.w;rw[this]at i;cases i
 ·refine A.mono ?_;rintro e q ⟨v,s,rfl,_,u,l⟩;exact⟨v,s,rfl,u.sub Z λh p C=>by
   have:XR j h=some p:=(GE j h).symm.trans C;exact Ku k _ (Qv this),l⟩
end
theorem M_ {P:Program} {gs:Nat->BV} {L:List bJ} (D:∀w S,(∀h∈L,h.p w S)->∃T,KO (gs T) w λ_=>False) {f n:Nat} {z:List Value} {g:GV} {y:OL}
  (h:∀T (b:fR (gs T)),Calls P f z.toArray b.w λe s=>∃v c,e = .returned v∧gH b c (HY n y) s∧Rl c g v) {A:Type} {o:A->Value} {LO:A->List bJ}
  (d:∀T (b:fR (gs T)) (B:fC) (w:World) (V:Value),(∀k,b.mine k->b.w.heap.size<=k)->gH b B (HY n y) w->Rl B g V->∃x:A,V=o x∧∀q∈LO x,q.p w (λk=>b.w.heap.size<=k)):
  aW P f z.toArray L o (λ_ l=>l) (λx l=>LO x++l):=by
 intro t C H;obtain⟨T,u⟩:=D t C H;refine(h T (.of t u)).mono ?_;rintro e s ⟨v,c,rfl,R,G⟩;obtain⟨x,rfl,F⟩:=d T (.of t u) c s v (λk r=>r.elim id False.elim) R G;refine⟨x,rfl,R.ext,λ_ _=>False,⟨λi m E=>by simp at E,λi k h=>h.elim,λi j k h=>h.elim⟩,λq a=> ?_⟩
 have a:q∈LO x++[]:=a;rw[List.append_nil]at a;exact bJ.wide (F q a) (λk r=>⟨.inr (.inl r),λi h=>h.elim⟩)
noncomputable def Iw (s:ByteArray):Nat×Nat:=(mD (bT s),(bT s).length)
theorem MG {a b:ByteArray} (h:Iw a=Iw b):a=b:=by
 have c:=Zo a b;unfold Iw at h;rw[h]at c;have e:TE (mD (bT b),(bT b).length) (mD (bT b),(bT b).length)=true:=by simp[TE]
 rw[e]at c;have d:a.toList=b.toList:=eq_of_beq c.symm;rw[Lib.toList_data,Lib.toList_data]at d;obtain⟨⟨x⟩⟩:=a;obtain⟨⟨y⟩⟩:=b;simp only at d;rw[d]
noncomputable def Zf (a:List GV):Option (Nat×Nat):=List.casesOn (motive:=λ_=>Option (Nat×Nat)) a none λc r=>List.casesOn (motive:=λ_=>Option (Nat×Nat)) r c.asStr λ_ _=>none
abbrev afI:gA ByteArray:=⟨1,Nat.one_pos,λ_ _ a x=>a=[.string x],λh=>by simp[h],λh _=>h⟩
theorem eT.str {S:Nat->Prop} {g:fC} {w:World}:eT S g w Zf afI Iw:=λgs f y a h _=>by
 cases gs with
 |nil=>cases h
 |cons c gs=>
 cases gs with
 |cons _ _=>cases h
 |nil=>
 have h:c.asStr=some y:=h;obtain⟨v,f,rfl,b,a⟩:=a.of_cons;rw[a.of_nil];rw[qZ h]at b;obtain⟨x,rfl,d,e⟩:=b.str_inv;exact⟨x,by unfold Iw;rw[<-d,<-e],rfl⟩
theorem Wn {c:fC} {V:Value} {n l:Nat} {s:ByteArray} (h:Rl c (.str n l) V) (e:Iw s=(n,l)):V = .string s:=by
 obtain⟨x,rfl,a,b⟩:=h.str_inv;have:Iw x=Iw s:=by rw[e];unfold Iw;rw[<-a,<-b]
 rw[MG this]
theorem Ea {c:Type}:∀a b:c,id a=id b->a=b:=λ_ _ h=>h
theorem wW {c d e i:Type} {f:c->e} {g:d->i} (j:∀a b,f a=f b->a=b) (k:∀a b,g a=g b->a=b):∀a b:c×d,(λz:c×d=>(f z.1,g z.2)) a=(λz:c×d=>(f z.1,g z.2)) b->a=b:=λa b h=>by
 obtain⟨l,m⟩:=a;obtain⟨n,o⟩:=b;simp only[Prod.mk.injEq]at h;rw[j _ _ h.1,k _ _ h.2]
theorem IB {g i:Type} {f:g->i} (e:∀a b,f a=f b->a=b):∀{c d:List g},c.map f=d.map f->c=d
 | [],[],_=>rfl
 | [],_::_,h=>by simp at h
 |_::_,[],h=>by simp at h
 |a::c,b::d,h=>by
  simp only[List.map_cons,List.cons.injEq]at h;rw[e _ _ h.1,IB e h.2]
end Go.Gx
section
set_option maxRecDepth 100000
namespace Go.Gx
open Go Go.Sx Go.Proofs Go.Proofs.YtahgemjmgopleaaGreatDoor
def Gw (l:gZ):List GV:=l.map λn=> .int .i64 (.ofNat n)
abbrev afm:Nat:=6706143830449764899556809608818904919804074884937111603718476495539622089622860971527792587791047894922729163212717263328395231852300855536488424978955807703755604513825873373095632290149847090083112304426652546340939400726262280257803792487332445892473582856512649637013408585975292850644760247287299230258062944610265801223788397479914840704983105145953743025358843726328641031619437354017789814719882883570583131354112070717477863523377784965938515931160728579383844655360852857429048595849656685311997067516701048769715945338084683118784715135226216982869351630641616464718832441949492048937096570154901286325463543707328254906190863546417377904
def mu0:List GV:=[.str afm 270]
def mg0:GV:=(.agg [(.str 7562850 3),(.sl 1176 0 2 6),(.sl 2078 0 2 3)])
def mo0:OL:=[(1176,1176,.cells [(.str 100 1),(.int .i64 (.ofNat 1)),(.int .i64 (.ofNat 0)),(.int .i64 (.ofNat 0)),(.int .i64 (.ofNat 1)),(.int .i64 (.ofNat 0)),(.str 112 1),(.int .i64 (.ofNat 3)),(.int .i64 (.ofNat 0)),(.int .i64 (.ofNat 0)),(.int .i64 (.ofNat 0)),(.int .i64 (.ofNat 0))]),
 (1300,1300,.cells (Gw [41,0,10,0,42,0,36,0,5,0,1,0,36,0,5,1,4,0])),
 (1326,1326,.cells [(.int .i64 (.ofNat 1)),(.int .i64 (.ofNat 0))]),
 (1359,1359,.cells [(.int .i64 (.ofNat 4)),(.int .i64 (.ofNat 0))]),
 (1367,1367,.cells [(.int .i64 (.ofNat 0)),(.sl 1326 0 1 2),(.int .i64 (.ofNat 1)),(.sl 1359 0 1 2)]),
 (1755,1755,.cells (Gw [41,0,19,0,10,0,42,0,36,0,5,0,43,0,37,0,24,0,12,0,6,0,33,0,24,0,12,0,1,1,6,0,36,0,5,1,23,0,35,0,12,0,24,0,12,0])),
 (1936,1936,.cells (Gw [43,0,37,0,24,0,12,0,6,0,33,0,24,0,12,0,1,1,6,0])),
 (2062,2062,.cells (Gw [23,0,35,0,12,0,24,0,12,0])),
 (2070,2070,.cells [(.int .i64 (.ofNat 0)),(.sl 1936 0 10 2),(.int .i64 (.ofNat 1)),(.sl 2062 0 5 2)]),
 (2078,2078,.cells [(.str 7368564 3),(.sl 1300 0 9 2),(.sl 1367 0 2 2),(.str 7827308 3),(.sl 1755 0 23 2),(.sl 2070 0 2 2)])]
set_option maxHeartbeats 4000000 in
theorem me0:SC F_ gp 4000 10 mu0 [1176,1300,1326,1359,1367,1755,1936,2062,2070,2078]=some (mg0,3136,mo0):=by kernel_rfl
noncomputable def MS (f:Nat) (a:List GV) (H:GH):Option (GV×GH):=bif Nat.beq f 10 then(bif isS a (afm,270)then OX mg0 3136 mo0 H else ZD f a H)else ZD f a H
noncomputable def aho:GP:=⟨xT,gp.cat,MS,gp.exn⟩
theorem Km {T:Nat} {k:fR (gl T)} {w:World} {e:fC} {H i:GH} {g:GV} {d:List GV} {j:fP} {f:Nat} (h:MS f d H=some (g,i)) (R:gH k e H w) (a:pO e d j):jR Tryz.prog k e f j w g i:=by
 unfold MS at h;cases b:Nat.beq f 10 with
 |false=>rw[b]at h;exact Qn h R a
 | true =>
  rw[b]at h;cases c:isS d (afm,270)with
  |false=>rw[c]at h;exact Qn h R a
  |true=>
   rw[c]at h;rw[zA2 b];rw[UA c]at a;obtain⟨V,rfl,n⟩:=a.one;obtain⟨x,rfl,l,m⟩:=n.str_inv;exact Qy (gs:=gl T) (gs2:=gl T) Z Z BL TF me0 Tryz.call10 (pO.cons (Np l m) .nil) h R
theorem adN {T:Nat} (a:fR (gl T)):U_ Tryz.prog aho F_.fns a:=⟨(TF a).tab,(TF a).mixed,(TF a).fns,λh d w c R b=>Km h R b,(TF a).exn,(TF a).cat⟩
abbrev afn:Nat:=2782272544148574329703548915484139416562471587372346629090892429547018860149309682118537811771073185556707760590527461846276004869770941806974104689717583530206048895217444112283498148464
def mu1:List GV:=[.str afn 78]
def mg1:GV:=(.agg [(.str 1907970655657516625763 9),(.sl 328 0 1 6),(.sl 491 0 1 3)])
def Xu:OL:=[(328,328,.cells [(.str 99 1),(.int .i64 (.ofNat 1)),(.int .i64 (.ofNat 0)),(.int .i64 (.ofNat 0)),(.int .i64 (.ofNat 1)),(.int .i64 (.ofNat 0))]),
 (410,410,.cells (Gw [21,0,35,0,12,0,5,0])),
 (475,475,.cells (Gw [27,0,12,0])),
 (483,483,.cells [(.int .i64 (.ofNat 0)),(.sl 475 0 2 2)]),
 (491,491,.cells [(.str 7891302 3),(.sl 410 0 4 2),(.sl 483 0 1 2)])]
set_option maxHeartbeats 4000000 in
theorem me1:SC F_ aho 4000 10 mu1 [328,410,475,483,491]=some (mg1,651,Xu):=by kernel_rfl
noncomputable def MU (f:Nat) (a:List GV) (H:GH):Option (GV×GH):=bif Nat.beq f 10 then(bif isS a (afn,78)then OX mg1 651 Xu H else MS f a H)else MS f a H
noncomputable def ahp:GP:=⟨xT,gp.cat,MU,gp.exn⟩
theorem Kn {T:Nat} {k:fR (gl T)} {w:World} {e:fC} {H i:GH} {g:GV} {d:List GV} {j:fP} {f:Nat} (h:MU f d H=some (g,i)) (R:gH k e H w) (a:pO e d j):jR Tryz.prog k e f j w g i:=by
 unfold MU at h;cases b:Nat.beq f 10 with
 |false=>rw[b]at h;exact Km h R a
 | true =>
  rw[b]at h;cases c:isS d (afn,78)with
  |false=>rw[c]at h;exact Km h R a
  |true=>
   rw[c]at h;rw[zA2 b];rw[UA c]at a;obtain⟨V,rfl,n⟩:=a.one;obtain⟨x,rfl,l,m⟩:=n.str_inv;exact Qy (gs:=gl T) (gs2:=gl T) Z Z BL adN me1 Tryz.call10 (pO.cons (Np l m) .nil) h R
theorem adO {T:Nat} (a:fR (gl T)):U_ Tryz.prog ahp F_.fns a:=⟨(TF a).tab,(TF a).mixed,(TF a).fns,λh d w c R b=>Kn h R b,(TF a).exn,(TF a).cat⟩
abbrev afo:Nat:=389508662282641590667193222818340124320258541324365428891725188086024207717159085315988594649689196209224937564443540662539472250600169891651064703471849739348391035222282332234873775082367041688393518087397133674180373991176283487897321372674739070210027174703280392956383328243748401776
def mu2:List GV:=[.str afo 120]
def mg2:GV:=(.agg [(.str 140756725746397274546925161 11),(.sl 410 0 1 6),(.sl 686 0 2 3)])
def Xv:OL:=[(410,410,.cells [(.str 109 1),(.int .i64 (.ofNat 2)),(.int .i64 (.ofNat 0)),(.int .i64 (.ofNat 0)),(.int .i64 (.ofNat 0)),(.int .i64 (.ofNat 0))]),
 (497,497,.cells (Gw [41,0,5,0,21,0,12,0])),
 (524,524,.cells [(.int .i64 (.ofNat 3)),(.int .i64 (.ofNat 0))]),
 (532,532,.cells [(.int .i64 (.ofNat 0)),(.sl 524 0 1 2)]),
 (643,643,.cells (Gw [41,0,19,0,5,0,19,0,21,0,12,0])),
 (670,670,.cells [(.int .i64 (.ofNat 2)),(.int .i64 (.ofNat 0))]),
 (678,678,.cells [(.int .i64 (.ofNat 0)),(.sl 670 0 1 2)]),
 (686,686,.cells [(.str 435777791340 5),(.sl 497 0 4 2),(.sl 532 0 1 2),(.str 491328400997 5),(.sl 643 0 6 2),(.sl 678 0 1 2)])]
set_option maxHeartbeats 4000000 in
theorem me2:SC F_ ahp 4000 10 mu2 [410,497,524,532,643,670,678,686]=some (mg2,983,Xv):=by kernel_rfl
noncomputable def Ut (f:Nat) (a:List GV) (H:GH):Option (GV×GH):=bif Nat.beq f 10 then(bif isS a (afo,120)then OX mg2 983 Xv H else MU f a H)else MU f a H
noncomputable def ahq:GP:=⟨xT,gp.cat,Ut,gp.exn⟩
theorem Xj {T:Nat} {k:fR (gl T)} {w:World} {e:fC} {H i:GH} {g:GV} {d:List GV} {j:fP} {f:Nat} (h:Ut f d H=some (g,i)) (R:gH k e H w) (a:pO e d j):jR Tryz.prog k e f j w g i:=by
 unfold Ut at h;cases b:Nat.beq f 10 with
 |false=>rw[b]at h;exact Kn h R a
 | true =>
  rw[b]at h;cases c:isS d (afo,120)with
  |false=>rw[c]at h;exact Kn h R a
  |true=>
   rw[c]at h;rw[zA2 b];rw[UA c]at a;obtain⟨V,rfl,n⟩:=a.one;obtain⟨x,rfl,l,m⟩:=n.str_inv;exact Qy (gs:=gl T) (gs2:=gl T) Z Z BL adO me2 Tryz.call10 (pO.cons (Np l m) .nil) h R
theorem ahn {T:Nat} (a:fR (gl T)):U_ Tryz.prog ahq F_.fns a:=⟨(TF a).tab,(TF a).mixed,(TF a).fns,λh d w c R b=>Xj h R b,(TF a).exn,(TF a).cat⟩
noncomputable abbrev gp2:GP:=ahq
theorem alb {T:Nat} (a:fR (gl T)):U_ Tryz.prog gp2 F_.fns a:=ahn a
end Go.Gx
end
namespace Go.Gx
open Go Go.Sx Go.RowKit
structure Hd (n:Nat) (os:OL) (ρ:fC) (w:World) (S:Nat->Prop):Prop where
 live:∀h o,(HY n os).get h=some o->∃l,ρ h=some l∧S l.b∧AU ρ w l o
 inj:∀h h' o o' l l',(HY n os).get h=some o->(HY n os).get h'=some o'->ρ h=some l->ρ h'=some l'->l.b=l'.b->h=h'
 fresh:∀h,n<=h->ρ h=none
 dense:∀h,h<n->∃l,ρ h=some l
 vers:∀h v l,(HY n os).ver h=some v->ρ h=some l->∃lv,ρ v=some lv∧w.heap[l.b]? = some lv.x∧(HY n os).get h=some lv.o
theorem Hd.mono {n:Nat} {p:OL} {f:fC} {w w':World} {S g:Nat->Prop} (H:Hd n p f w S) (h:∀k,S k->k<w.heap.size->g k∧w'.heap[k]? = w.heap[k]?):Hd n p f w' g:=by
 refine⟨λk o s=> ?_,H.inj,H.fresh,H.dense,λk v l m j=> ?_⟩
 ·obtain⟨l,a,b,c⟩:=H.live k o s;obtain⟨d,e⟩:=h _ b c.lt;exact⟨l,a,d,c.move (fC.le_refl f) e⟩
 ·obtain⟨u,a,b,c⟩:=H.vers k v l m j;obtain⟨o,t⟩:=uA.1 m;obtain⟨x,i,q,r⟩:=H.live k o (iQ.2 ⟨v,t⟩);rw[j]at i;cases i;exact⟨u,a,by rw[(h _ q r.lt).2];exact b,c⟩
theorem gH.hd {gs:BV} {b:fR gs} {n:Nat} {d:OL} {ρ:fC} {w:World} {S:Nat->Prop} (R:gH b ρ (HY n d) w) (e:∀k,b.mine k->S k):Hd n d ρ w S:=
 ⟨λh o f=>let ⟨l,a,b,c⟩:=R.live h o f;⟨l,a,e _ b,c⟩,R.inj,R.fresh,R.dense,R.vers⟩
def Rs (n:Nat) (b:OL) (g:GV) (V:Value):bJ where
 p w S:=∃a,Hd n b a w S∧Rl a g V
 mono:=fun⟨a,h,r⟩ k=>⟨a,h.mono k,r⟩
def Hd.O (n:Nat) (a:OL) (c:fC) (k:Nat):Prop:=∃h o l,(HY n a).get h=some o∧c h=some l∧l.b=k
def Hd.base (n:Nat) (os:OL) (ρ:fC) (w:World):fR noG:=⟨w,Hd.O n os ρ,λ_ h=>absurd h zB7⟩
theorem Hd.rel {n:Nat} {b:OL} {ρ:fC} {w:World} {S:Nat->Prop} (H:Hd n b ρ w S):gH (Hd.base n b ρ w) ρ (HY n b) w:=
 ⟨Er.refl w,λh o d=>let ⟨l,a,_,c⟩:=H.live h o d;⟨l,a,.inr ⟨h,o,l,d,a,rfl⟩,c⟩,H.inj,H.fresh,H.dense,H.vers,λi v e=>by simp[Hd.base,noG]at e⟩
noncomputable def Ib (H:GH) (b:OL):Bool:=List.rec (motive:=λ_=>Bool) true (λx _ a=>Option.casesOn (motive:=λ_=>Bool) (H.ver x.1) false λv=>bif Nat.beq v x.2.1 then a else false) b
theorem Te {H:GH}:∀{a:OL},Ib H a=true->∀x∈a,H.ver x.1=some x.2.1
 | [],_,x,b=>by cases b
 | y :: a, h, x, b => by
  have h:Option.casesOn (motive:=λ_=>Bool) (H.ver y.1) false (λv=>bif Nat.beq v y.2.1 then Ib H a else false)=true:=h;cases c:H.ver y.1 with
  |none=>rw[c]at h;cases h
  | some v =>
   rw[c]at h;obtain⟨d,f⟩:=bW.1 (show(bif Nat.beq v y.2.1 then(some (Ib H a))else none)=some true by
    have h:(bif Nat.beq v y.2.1 then Ib H a else false)=true:=h;cases e:Nat.beq v y.2.1<;>rw[e]at h<;>first|cases h|(show some (Ib H a)=some true;rw[show Ib H a=true from h]))
   rcases zAn.1 b with rfl|b
   ·rw[c,zA2 d]
   ·exact Te (Option.some.inj f) x b
noncomputable def okV (a:OL) (r:OR):Bool:=Option.casesOn (motive:=λ_=>Bool) r false λr=>Option.casesOn (motive:=λ_=>Bool) r.1.asB false λb=>bif b then Ib r.2 a else false
theorem Jr {d:OL} {r:OR} (h:okV d r=true):∃a,r=some (.bool true,a)∧Ib a d=true:=by
 cases r with
 |none=>cases h
 | some r =>
  obtain⟨g,a⟩:=r;have h:Option.casesOn (motive:=λ_=>Bool) g.asB false (λb=>bif b then Ib a d else false)=true:=h;cases c:g.asB with
  |none=>rw[c]at h;cases h
  |some b=>
   rw[c]at h;cases b with
   |false=>cases h
   |true=>exact⟨a,by rw[DW c],h⟩
theorem Hm {P:Program} {G:GP} {x:FT} (F:∀T:fR noG,U_ P G x T) {fuel f n:Nat} {d:OL} {g:GV} {V:Value} (H:aU P f) (h:∃r,Vx G x fuel f [g] (HY n d)=some (.bool true,r)∧Ib r d=true) {w:World} {S:Nat->Prop} (Q:(Rs n d g V).p w S):
  Calls P f #[V] w λe u=>e = .returned (.bool true)∧Oo w u:=by
 obtain⟨U,y,M⟩:=Q;obtain⟨r,D,E⟩:=h;rcases Ja F D y.rel (.cons M .nil)with⟨v,u,W,m,_⟩|⟨_,I⟩
 ·have:=H #[V] w;rw[this]at m;cases m
 ·refine I.mono ?_;rintro e u ⟨v,X,rfl,j,c,N⟩;refine⟨by rw[N.bool_inv],c.ext.os,c.ext.tape,c.ext.output,c.ext.size,λk K=> ?_⟩
  by_cases A:Hd.O n d U k
  ·obtain⟨i,o,l,J,z,rfl⟩:=A;obtain⟨t,q⟩:=iQ.1 J;have L:(i,t,o)∈d:=Qv ((GE d i).symm.trans q);obtain⟨R,a,b,_⟩:=y.vers i t l (uA.2 ⟨o,q⟩) z;obtain⟨s,B,C,_⟩:=c.vers i t l (Te E _ L) (j _ _ z);have:R=s:=by have:=j _ _ a;rw[B]at this;exact(Option.some.inj this).symm
   subst this;exact C.trans b.symm
  ·exact c.ext.block k K A
end Go.Gx
namespace Go.Proofs.YtahgemjmgopleaaGreatDoor
open Go Go.Sx Go.Gx
set_option maxRecDepth 100000
abbrev zI:=ByteArray×(Value×e_)×(Value×List (Int×(Value×e_)))
def tH (z:zI):e_×List (Int×e_):=(z.2.1.2,z.2.2.2.map λs=>(s.1,s.2.2))
def ID:ByteArray:=(ByteArray.mk #[112,114,111,103,114,97,109,32,99,111,108,111,117,114,105,110,103,59,10,118,97,114,32,99,32,58,32,48,32,46,46,32,110,59,10,114,117,108,101,32,102,105,120,58,32,115,111,109,101,40,113,46,99,32,61,61,32,99,41,32,45,62,32,99,32,58,61,32,109,101,120,40,113,46,99,41,59,10])
def Kw:JQ:=[((ByteArray.mk #[99]),(1:Int),(0:Int),(0:Int),(1:Int),(0:Int))]
def Hv:Pk:=[([(21,0),(35,0),(12,0),(5,0)],[(0,[(27,0),(12,0)])])]
def adV:List ((Nat×Nat)×e_×List (Int×e_)):=[((7891302,3),[(21,0),(35,0),(12,0),(5,0)],[(0,[(27,0),(12,0)])])]
def Nk:ByteArray:=(ByteArray.mk #[112,114,111,103,114,97,109,32,105,110,100,101,112,101,110,100,101,110,116,59,10,118,97,114,32,109,32,58,32,98,111,111,108,59,10,114,117,108,101,32,108,101,97,118,101,58,32,109,32,38,38,32,115,111,109,101,40,113,46,109,41,32,45,62,32,109,32,58,61,32,102,97,108,115,101,59,10,114,117,108,101,32,101,110,116,101,114,58,32,33,109,32,38,38,32,33,115,111,109,101,40,113,46,109,41,32,45,62,32,109,32,58,61,32,116,114,117,101,59,10])
def Nm:JQ:=[((ByteArray.mk #[109]),(2:Int),(0:Int),(0:Int),(0:Int),(0:Int))]
def Jt:Pk:=[([(41,0),(5,0),(21,0),(12,0)],[(0,[(3,0)])]),([(41,0),(19,0),(5,0),(19,0),(21,0),(12,0)],[(0,[(2,0)])])]
def adW:List ((Nat×Nat)×e_×List (Int×e_)):=[((435777791340,5),[(41,0),(5,0),(21,0),(12,0)],[(0,[(3,0)])]),((491328400997,5),[(41,0),(19,0),(5,0),(19,0),(21,0),(12,0)],[(0,[(2,0)])])]
def PF (V:Value):bJ:=⟨λw S=>(Rs 651 Xu mg1 V).p w S∨(Rs 983 Xv mg2 V).p w S,λ{w w' S S'} h k=>by
 rcases h with h|h
 ·exact .inl ((Rs 651 Xu mg1 V).mono h k)
 exact .inr (((Rs 983 Xv mg2 V).mono h k))⟩
noncomputable def Ys {R:Type} (D:Pk) (k:List zI->Option R):Option R:=open Classical in if h:∃r,∀z:List zI,z.map tH=D->k z=some r then some (Classical.choose h)else none
theorem WQ {R:Type} {D:Pk} {k:List zI->Option R} {r:R} (h:Ys D k=some r) (z:List zI) (a:z.map tH=D):k z=some r:=by
 unfold Ys at h;split at h
 ·rename_i e;rw[<-Option.some.inj h];exact Classical.choose_spec e z a
 cases h
theorem abu {R:Type} {D:Pk} {k:List zI->Option R} {r:R} (h:∀z:List zI,z.map tH=D->k z=some r):Ys D k=some r:=by
 have e:∃r,∀z:List zI,z.map tH=D->k z=some r:=⟨r,h⟩
 unfold Ys;rw[dif_pos e];let z:List zI:=D.map λx=>(ByteArray.empty,(undef,x.1),(undef,x.2.map λs=>(s.1,(undef,s.2))))
 have c:z.map tH=D:=by
  show(D.map _).map tH=D;rw[List.map_map]
  conv=>rhs;rw[<-List.map_id D]
  refine List.map_congr_left λx _=>?_;obtain⟨a,b⟩:=x;simp[tH,Function.comp_def]
 rw[<-Classical.choose_spec e z c,h z c]
def sQ (a:Nat) (b:ByteArray):Option Wo:=if b=ID then some ((ByteArray.mk #[99,111,108,111,117,114,105,110,103]),Kw,Hv)else if b=Nk then some ((ByteArray.mk #[105,110,100,101,112,101,110,100,101,110,116]),Nm,Jt)else none
theorem Uc:aU Tryz.prog 10:=Tryz.call10
theorem PV:aU Tryz.prog 169:=Tryz.call169
theorem SV:Iw ID=(2782272544148574329703548915484139416562471587372346629090892429547018860149309682118537811771073185556707760590527461846276004869770941806974104689717583530206048895217444112283498148464,78):=by kernel_rfl
theorem aah:Iw (ByteArray.mk #[99,111,108,111,117,114,105,110,103])=(1907970655657516625763,9):=by kernel_rfl
theorem aam:MD (HY 651 Xu) 6 (dP 1 Zf (dP 1 (dI .i64) (dP 1 (dI .i64) (dP 1 (dI .i64) (dP 1 (dI .i64) (dI .i64)))))) (.sl 328 0 1 6)=some (Kw.map λz=>(Iw z.1,z.2.1,z.2.2.1,z.2.2.2.1,z.2.2.2.2.1,z.2.2.2.2.2)):=by kernel_rfl
theorem XB:MD (HY 651 Xu) 3 (dP 1 Zf (dP 1 (dS (HY 651 Xu) 2 (dP 1 (dI .i64) (dI .i64))) (dS (HY 651 Xu) 2 (dP 1 (dI .i64) (dS (HY 651 Xu) 2 (dP 1 (dI .i64) (dI .i64))))))) (.sl 491 0 1 3)=some adV:=by kernel_rfl
theorem ado:adV.map (λy=>(y.2.1,y.2.2))=Hv:=by kernel_rfl
theorem aaj (r:Wo) (h:some ((ByteArray.mk #[99,111,108,111,117,114,105,110,103]),Kw,Hv)=some r):aW Tryz.prog 10 #[vS ID] [Gb 0 (cellsOf HN vE)] (λx:Value×Value×{z:List zI // z.map tH=r.2.2}=>Value.agg #[vS r.1,x.1,x.2.1]) (λx l=>l) (λx l=>Sl aN x.1 r.2.1::Sl aJ x.2.1 x.2.2.1::PF (Value.agg #[vS r.1,x.1,x.2.1])::l):=by
 cases h;refine M_ (gs:=gl) (LO:=λx:Value×Value×{z:List zI // z.map tH=Hv}=>[Sl aN x.1 Kw,Sl aJ x.2.1 x.2.2.1,PF (Value.agg #[vS (ByteArray.mk #[99,111,108,111,117,114,105,110,103]),x.1,x.2.1])]) Uv (λT b=>OY BL adN me1 Uc (.cons (Np (x:=ID) (congrArg Prod.fst SV).symm (congrArg Prod.snd SV).symm) .nil) Z b) ?_;intro T b B w V a R g;have y:=g;obtain⟨f,rfl,c,_⟩:=g.agg_inv;obtain⟨C,f,rfl,m,c⟩:=c.of_cons;obtain⟨j,f,rfl,n,c⟩:=c.of_cons;obtain⟨k,rfl,o⟩:=c.one;obtain rfl:=Wn m aah;obtain⟨A,v,s⟩:=CG R a (eT.pair eT.str (eT.pair (eT.int .i64) (eT.pair (eT.int .i64) (eT.pair (eT.int .i64) (eT.pair (eT.int .i64) (eT.int .i64)))))) n aam;have e:A=Kw:=IB (wW (λ_ _=>MG) (wW Ea (wW Ea (wW Ea (wW Ea Ea))))) v;subst e;obtain⟨i,u,t⟩:=CG (r:=aJ) R a (eT.pair eT.str (eT.pair (eT.sl R a (eT.pair (eT.int .i64) (eT.int .i64))) (eT.sl R a (eT.pair (eT.int .i64) (eT.sl R a (eT.pair (eT.int .i64) (eT.int .i64))))))) o XB;have d:i.map tH=Hv:=by
  rw[<-ado,<-u,List.map_map];refine List.map_congr_left λx _=>?_;simp[tH,Function.comp_def]
 exact⟨(j,k,⟨i,d⟩),rfl,zAg.2 ⟨s,zAg.2 ⟨t,zAg.2 ⟨.inl (⟨B,gH.hd R a,y⟩),λq p=>absurd p zB7⟩⟩⟩⟩
theorem aaV:okV Xu (HT F_ gp0 4000 169 [mg1] (HY 651 Xu))=true:=by kernel_rfl
theorem SX:Iw Nk=(389508662282641590667193222818340124320258541324365428891725188086024207717159085315988594649689196209224937564443540662539472250600169891651064703471849739348391035222282332234873775082367041688393518087397133674180373991176283487897321372674739070210027174703280392956383328243748401776,120):=by kernel_rfl
theorem aai:Iw (ByteArray.mk #[105,110,100,101,112,101,110,100,101,110,116])=(140756725746397274546925161,11):=by kernel_rfl
theorem aan:MD (HY 983 Xv) 6 (dP 1 Zf (dP 1 (dI .i64) (dP 1 (dI .i64) (dP 1 (dI .i64) (dP 1 (dI .i64) (dI .i64)))))) (.sl 410 0 1 6)=some (Nm.map λz=>(Iw z.1,z.2.1,z.2.2.1,z.2.2.2.1,z.2.2.2.2.1,z.2.2.2.2.2)):=by kernel_rfl
theorem XC:MD (HY 983 Xv) 3 (dP 1 Zf (dP 1 (dS (HY 983 Xv) 2 (dP 1 (dI .i64) (dI .i64))) (dS (HY 983 Xv) 2 (dP 1 (dI .i64) (dS (HY 983 Xv) 2 (dP 1 (dI .i64) (dI .i64))))))) (.sl 686 0 2 3)=some adW:=by kernel_rfl
theorem adp:adW.map (λy=>(y.2.1,y.2.2))=Jt:=by kernel_rfl
theorem aak (r:Wo) (h:some ((ByteArray.mk #[105,110,100,101,112,101,110,100,101,110,116]),Nm,Jt)=some r):aW Tryz.prog 10 #[vS Nk] [Gb 0 (cellsOf HN vE)] (λx:Value×Value×{z:List zI // z.map tH=r.2.2}=>Value.agg #[vS r.1,x.1,x.2.1]) (λx l=>l) (λx l=>Sl aN x.1 r.2.1::Sl aJ x.2.1 x.2.2.1::PF (Value.agg #[vS r.1,x.1,x.2.1])::l):=by
 cases h;refine M_ (gs:=gl) (LO:=λx:Value×Value×{z:List zI // z.map tH=Jt}=>[Sl aN x.1 Nm,Sl aJ x.2.1 x.2.2.1,PF (Value.agg #[vS (ByteArray.mk #[105,110,100,101,112,101,110,100,101,110,116]),x.1,x.2.1])]) Uv (λT b=>OY BL adO me2 Uc (.cons (Np (x:=Nk) (congrArg Prod.fst SX).symm (congrArg Prod.snd SX).symm) .nil) Z b) ?_;intro T b B w V a R g;have y:=g;obtain⟨f,rfl,c,_⟩:=g.agg_inv;obtain⟨C,f,rfl,m,c⟩:=c.of_cons;obtain⟨j,f,rfl,n,c⟩:=c.of_cons;obtain⟨k,rfl,o⟩:=c.one;obtain rfl:=Wn m aai;obtain⟨A,v,s⟩:=CG R a (eT.pair eT.str (eT.pair (eT.int .i64) (eT.pair (eT.int .i64) (eT.pair (eT.int .i64) (eT.pair (eT.int .i64) (eT.int .i64)))))) n aan;have e:A=Nm:=IB (wW (λ_ _=>MG) (wW Ea (wW Ea (wW Ea (wW Ea Ea))))) v;subst e;obtain⟨i,u,t⟩:=CG (r:=aJ) R a (eT.pair eT.str (eT.pair (eT.sl R a (eT.pair (eT.int .i64) (eT.int .i64))) (eT.sl R a (eT.pair (eT.int .i64) (eT.sl R a (eT.pair (eT.int .i64) (eT.int .i64))))))) o XC;have d:i.map tH=Jt:=by
  rw[<-adp,<-u,List.map_map];refine List.map_congr_left λx _=>?_;simp[tH,Function.comp_def]
 exact⟨(j,k,⟨i,d⟩),rfl,zAg.2 ⟨s,zAg.2 ⟨t,zAg.2 ⟨.inr ((⟨B,gH.hd R a,y⟩)),λq p=>absurd p zB7⟩⟩⟩⟩
theorem aaW:okV Xv (HT F_ gp0 4000 169 [mg2] (HY 983 Xv))=true:=by kernel_rfl
theorem Lv (a:Nat) {b:ByteArray} (r:Wo) (h:sQ a b=some r):aW Tryz.prog 10 #[vS b] [Gb 0 (cellsOf HN vE)] (λx:Value×Value×{z:List zI // z.map tH=r.2.2}=>Value.agg #[vS r.1,x.1,x.2.1]) (λx l=>l) (λx l=>Sl aN x.1 r.2.1::Sl aJ x.2.1 x.2.2.1::PF (Value.agg #[vS r.1,x.1,x.2.1])::l):=by
 unfold sQ at h;by_cases c:b=ID
 ·subst c;exact aaj r ((if_pos Z).symm.trans h)
 rw[if_neg c]at h;by_cases d:b=Nk
 ·subst d;exact aak r ((if_pos Z).symm.trans h)
 rw[if_neg d]at h;cases h
theorem aal (f:Nat):sQ f ID=some ((ByteArray.mk #[99,111,108,111,117,114,105,110,103]),Kw,Hv):=by
 unfold sQ;exact if_pos Z
theorem PQ:aU Tryz.prog 122:=Tryz.call122
theorem XE:okV Xu (HT F_ gp0 4000 122 [mg1] (HY 651 Xu))=true:=by kernel_rfl
theorem XF:okV Xv (HT F_ gp0 4000 122 [mg2] (HY 983 Xv))=true:=by kernel_rfl
def Ed (fuel:Nat) (a:ByteArray×List (ByteArray×Int×Int×Int×Int×Int)×List (zI)):Option Bool:=some true
theorem Oc (a:Nat) {b:ByteArray×List (ByteArray×Int×Int×Int×Int×Int)×List (zI)} (f g:Value) (r:Bool) (h:Ed a b=some r):
  aW Tryz.prog 122 #[Value.agg #[vS b.1,f,g]] [Sl aN f b.2.1,Sl aJ g b.2.2,PF (Value.agg #[vS b.1,f,g])] (λx:Unit=>vB (r)) (λx l=>l) (λ_ l=>l):=by
 cases h;intro w S z;have s:Calls Tryz.prog 122 #[Value.agg #[vS b.1,f,g]] w λe t=>e = .returned (.bool true)∧Oo w t:=by
  rcases z _ (zAq (i:=2) rfl)with p|p
  ·refine Hm (fuel:=4000) acJ PQ ?_ p;obtain⟨n,c,o⟩:=Jr XE;rw[CY (G:=gp0) BL]at c;exact⟨n,c,o⟩
  refine Hm (fuel:=4000) acJ PQ ?_ p;obtain⟨n,c,o⟩:=Jr XF;rw[CY (G:=gp0) BL]at c;exact⟨n,c,o⟩
 refine s.mono ?_;rintro e t ⟨rfl,d⟩;exact⟨(),rfl,⟨d.os,d.tape,d.output,d.size,λk u _=>d.block k u⟩,λ_ _=>False,⟨λi m v=>by simp at v,λi k h=>h.elim,λi j k h=>h.elim⟩,λq y=>by simp at y⟩
def Ee (fuel:Nat) (a:ByteArray×List (ByteArray×Int×Int×Int×Int×Int)×List (zI)):Option Bool:=some true
theorem Ol (a:Nat) {b:ByteArray×List (ByteArray×Int×Int×Int×Int×Int)×List (zI)} (f g:Value) (r:Bool) (h:Ee a b=some r):
  aW Tryz.prog 169 #[Value.agg #[vS b.1,f,g]] [Sl aN f b.2.1,Sl aJ g b.2.2,PF (Value.agg #[vS b.1,f,g])] (λx:Unit=>vB (r)) (λx l=>l) (λ_ l=>l):=by
 cases h;intro w S z;have s:Calls Tryz.prog 169 #[Value.agg #[vS b.1,f,g]] w λe t=>e = .returned (.bool true)∧Oo w t:=by
  rcases z _ (zAq (i:=2) rfl)with p|p
  ·refine Hm (fuel:=4000) acJ PV ?_ p;obtain⟨n,c,o⟩:=Jr aaV;rw[CY (G:=gp0) BL]at c;exact⟨n,c,o⟩
  refine Hm (fuel:=4000) acJ PV ?_ p;obtain⟨n,c,o⟩:=Jr aaW;rw[CY (G:=gp0) BL]at c;exact⟨n,c,o⟩
 refine s.mono ?_;rintro e t ⟨rfl,d⟩;exact⟨(),rfl,⟨d.os,d.tape,d.output,d.size,λk u _=>d.block k u⟩,λ_ _=>False,⟨λi m v=>by simp at v,λi k h=>h.elim,λi j k h=>h.elim⟩,λq y=>by simp at y⟩
end Go.Proofs.YtahgemjmgopleaaGreatDoor
namespace Go.Proofs.YtahgemjmgopleaaGreatDoor
open Go Go.Sx
abbrev aii:=GW
abbrev PRG:=ByteArray×(List aii)×(List zI)
abbrev GRF:=List Int×iA
abbrev SCN:=PRG×GRF×Int×bO
abbrev WLK:=SCN×bO×Int×e_
inductive E where
 |lf (o a:Int)
 |un (o:Int) (x:E)
 |ag (o:Int) (x:E)
 |bi (o:Int) (x y:E)
 |ite (x y z:E)
def E.ts:E->e_
 |lf o a=>[(o,a)]
 |un o x=>(o,0)::x.ts
 |ag o x=>(o,0)::x.ts
 |bi o x y=>(o,0)::(x.ts++y.ts)
 |ite x y z=>(43,0)::(x.ts++(y.ts++z.ts))
def E.depth:E->Nat
 |lf _ _=>1
 |un _ x=>x.depth+1
 |ag _ x=>x.depth+1
 |bi _ x y=>max x.depth y.depth+1
 |ite x y z=>max x.depth (max y.depth z.depth)+1
def E.arOk:E->Bool
 |lf o _=>decide (1<=o)&&decide (o<=17)
 |un o x=>decide (18<=o)&&decide (o<=19)&&x.arOk
 |ag o x=>decide (20<=o)&&decide (o<=29)&&x.arOk
 |bi o x y=>decide (30<=o)&&decide (o<=42)&&x.arOk&&y.arOk
 |ite x y z=>x.arOk&&y.arOk&&z.arOk
theorem LF {a:Type} [Inhabited a] {T pre rest:List a} {x:a} {k:Nat} (b:T=pre++x::rest) (c:pre.length=k):at' T (k:Int)=x:=by
 subst b;exact WS pre rest x k c
theorem dL {k:Nat} (h:k<1000000):wI .i64 ((k:Int)+1)=((k+1:Nat):Int):=by rw[wr (by omega) (by omega)];rfl
theorem Yv (f:Nat) {o:Int} (a:1<=o) (b:o<=43):Ap f o=some (if o<=17 then 0 else if o<=29 then 1 else if o<=42 then 2 else 3):=by
 unfold Ap BU;rw[if_neg (by omega)];simp only[zA8];rw[if_neg (by omega)];split
 ·rfl
 ·split
  ·rfl
  ·split<;>rfl
theorem Zm {F:Nat} {T c rest:e_} {t:eV} {k m a:Nat} {b:Nat} (d:T=c++t::rest) (g:c.length=k) (i:k<1000) (n:m<3000) (e:Ap F t.1=some ((a:Nat):Int)) (f:a<=3) (j:m+a≠0):
  bL (mC F T) (b+1) ((k:Int),(m:Int))=if m+a=1 then some (((k+1:Nat):Int))else bL (mC F T) b (((k+1:Nat):Int),((m+a - 1:Nat):Int)):=by
 have l:k<T.length:=by rw[d];simp;omega
 show mC F T ((k:Int),(m:Int)) (bL (mC F T) b)=_;unfold mC;dsimp only;rw[if_pos (by omega),cV (by omega),LF d g,bA e,if_neg (by omega),wr (x:=((a:Nat):Int) - 1) (by omega) (by omega),wr (by omega) (by omega),dL (by omega)];by_cases h:m+a=1
 ·rw[if_pos h,if_pos (by omega)]
 ·rw[if_neg h,if_neg (by omega)];have:(m:Int)+((a:Int) - 1)=((m+a - 1:Nat):Int):=by omega
  rw[this]
theorem acx (F:Nat) (T:e_) (H:T.length<=900):∀(e:E),e.arOk=true->∀(c k m:Nat) (d b:e_),T=d++(e.ts++b)->d.length=k->1<=m->m+2*(e.ts++b).length<=1900->e.ts.length<=c->
  bL (mC F T) c ((k:Int),(m:Int))=if m=1 then some (((k+e.ts.length:Nat):Int))else bL (mC F T) (c - e.ts.length) (((k+e.ts.length:Nat):Int),((m - 1:Nat):Int)):=by
 have r:∀{t:eV} {l b d:e_} {c k m:Nat},T=d++((t::l)++b)->d.length=k->(t::l).length<=c->1<=t.1->t.1<=43->1<=m->m+2*((t::l)++b).length<=1900->∀a:Nat,(if t.1<=17 then 0 else if t.1<=29 then 1 else if t.1<=42 then 2 else 3:Int)=a->a<=3->∃f,c=f+1∧
   bL (mC F T) c ((k:Int),(m:Int))=if m+a=1 then some (((k+1:Nat):Int))else bL (mC F T) f (((k+1:Nat):Int),((m+a - 1:Nat):Int)):=by
  intro t l b d c k m n p q v w i j a I B;have A:=congrArg List.length n;simp only[zAi,zAk]at A j q;obtain⟨f,rfl⟩:∃f,c=f+1:=⟨c - 1,by omega⟩
  exact⟨f,rfl,Zm (rest:=l++b) (by simpa using n) p (by omega) (by omega) (by rw[Yv F v w,I]) B (by omega)⟩
 intro e
 induction e with
 |lf o a=>
  intro g c k m d b n p i j q;simp only[E.arOk,zA3,zA8]at g;obtain⟨f,rfl,h⟩:=r (t:=(o,a)) (l:=[]) n p q (by dsimp only;omega) (by dsimp only;omega) i j 0 (by rw[if_pos (by dsimp only;omega)];rfl) (by omega);rw[h];rfl
 |un o x C=>
  intro g c k m d b n p i j q;simp only[E.arOk,zA3,zA8]at g;obtain⟨f,rfl,h⟩:=r (t:=(o,0)) (l:=x.ts) n p q (by dsimp only;omega) (by dsimp only;omega) i j 1 (by rw[if_neg (by dsimp only;omega),if_pos (by dsimp only;omega)];rfl) (by omega);simp only[E.ts,zAk]at q j ⊢;rw[h,if_neg (by omega)];have:=C g.2 f (k+1) m (d++[(o,0)]) b (by rw[n];simp[E.ts]) (by simp[p]) i (by simp at j ⊢;omega) (by omega);rw[show m+1 - 1=m by omega,this,show k+1+x.ts.length=k+(x.ts.length+1) by omega,show f+1 - (x.ts.length+1)=f - x.ts.length by omega]
 |ag o x C=>
  intro g c k m d b n p i j q;simp only[E.arOk,zA3,zA8]at g;obtain⟨f,rfl,h⟩:=r (t:=(o,0)) (l:=x.ts) n p q (by dsimp only;omega) (by dsimp only;omega) i j 1 (by rw[if_neg (by dsimp only;omega),if_pos (by dsimp only;omega)];rfl) (by omega);simp only[E.ts,zAk]at q j ⊢;rw[h,if_neg (by omega)];have:=C g.2 f (k+1) m (d++[(o,0)]) b (by rw[n];simp[E.ts]) (by simp[p]) i (by simp at j ⊢;omega) (by omega);rw[show m+1 - 1=m by omega,this,show k+1+x.ts.length=k+(x.ts.length+1) by omega,show f+1 - (x.ts.length+1)=f - x.ts.length by omega]
 |bi o x y s u=>
  intro g c k m d b n p i j q;simp only[E.arOk,zA3,zA8]at g;obtain⟨f,rfl,h⟩:=r (t:=(o,0)) (l:=x.ts++y.ts) n p q (by dsimp only;omega) (by dsimp only;omega) i j 2 (by rw[if_neg (by dsimp only;omega),if_neg (by dsimp only;omega),if_pos (by dsimp only;omega)];rfl) (by omega);simp only[E.ts,zAk,zAi]at q j ⊢;rw[h,if_neg (by omega)];have v:=s g.1.2 f (k+1) (m+1) (d++[(o,0)]) (y.ts++b) (by rw[n];simp[E.ts]) (by simp[p]) (by omega) (by simp at j ⊢;omega) (by omega);have w:=u g.2 (f - x.ts.length) (k+1+x.ts.length) m (d++((o,0)::x.ts)) b (by rw[n];simp[E.ts]) (by simp[p];omega) (by omega) (by simp at j ⊢;omega) (by omega);rw[show m+2 - 1=m+1 by omega,v,if_neg (by omega),show m+1 - 1=m by omega,w,show k+1+x.ts.length+y.ts.length=k+(x.ts.length+y.ts.length+1) by omega,show f+1 - (x.ts.length+y.ts.length+1)=f - x.ts.length - y.ts.length by omega]
 |ite x y z s u D=>
  intro g c k m d b n p i j q;simp only[E.arOk,zA3,zA8]at g;obtain⟨f,rfl,h⟩:=r (t:=(43,0)) (l:=x.ts++(y.ts++z.ts)) n p q (by decide) (by decide) i j 3 Z (by omega);simp only[E.ts,zAk,zAi]at q j ⊢;rw[h,if_neg (by omega)];have v:=s g.1.1 f (k+1) (m+2) (d++[(43,0)]) (y.ts++z.ts++b) (by rw[n];simp[E.ts]) (by simp[p]) (by omega) (by simp at j ⊢;omega) (by omega);have w:=u g.1.2 (f - x.ts.length) (k+1+x.ts.length) (m+1) (d++((43,0)::x.ts)) (z.ts++b) (by rw[n];simp[E.ts]) (by simp[p];omega) (by omega) (by simp at j ⊢;omega) (by omega);have G:=D g.2 (f - x.ts.length - y.ts.length) (k+1+x.ts.length+y.ts.length) m (d++((43,0)::(x.ts++y.ts))) b (by rw[n];simp[E.ts]) (by simp[p];omega) (by omega) (by simp at j ⊢;omega) (by omega);rw[show m+3 - 1=m+2 by omega,v,if_neg (by omega),show m+2 - 1=m+1 by omega,w,if_neg (by omega),show m+1 - 1=m by omega,G,show k+1+x.ts.length+y.ts.length+z.ts.length=k+(x.ts.length+(y.ts.length+z.ts.length)+1) by omega,show f+1 - (x.ts.length+(y.ts.length+z.ts.length)+1)=f - x.ts.length - y.ts.length - z.ts.length by omega]
theorem afe (F:Nat) (e:E) (d:e.arOk=true) {T b a:e_} {k:Nat} (f:T=b++(e.ts++a)) (i:b.length=k) (j:T.length<=800) (h:e.ts.length<=F):Fp F T (k:Int)=some (((k+e.ts.length:Nat):Int)):=by
 have g:1<=e.ts.length:=by cases e<;>simp[E.ts]
 have c:=congrArg List.length f;simp only[zAi]at c;unfold Fp DR;rw[if_neg (by omega)];simp only[zA8];rw[if_neg (by omega)];have:=acx F T (by omega) e d F k 1 b a f i (by omega) (by simp;omega) h;rw[if_pos Z]at this;exact this
def Mt (b:Bool):Int:=if b then 1 else 0
theorem xR (f:Nat) (b:Bool):jW f b=some (Mt b):=by cases b<;>rfl
theorem Bq {a:Type} [Inhabited a] {l:List a} {k:Nat} (h:k<l.length):l.take (k+1)=l.take k++[at' l (k:Int)]:=by
 rw[List.take_add_one,zA0 h,lQ,zA6,zA0 h];rfl
theorem jI {a:Type} [Inhabited a] {l:List a} {k:Nat} (h:k<l.length):at' l (k:Int)=l[k]:=by
 rw[lQ,zA6,zA0 h];rfl
theorem OT {p:Nat->Prop}:∀(n:Nat),p n->∃m,m<=n∧p m∧∀j,j<m->¬p j:=by
 intro n
 induction n using Nat.strongRecOn with
 | _ n ih =>
  intro h;by_cases d:∃m,m<n∧p m
  ·obtain⟨m,e,f⟩:=d;obtain⟨k,a,b,c⟩:=ih m e f;exact⟨k,by omega,b,c⟩
  ·exact⟨n,zAd n,h,λj g i=>d ⟨j,g,i⟩⟩
theorem VT {g:Type} [DecidableEq g]:∀(c b:List g),c.Nodup->(∀x∈c,x∈b)->c.length<=b.length
 | [],b,_,_=>Nat.zero_le _
 |a::c,b,h,hs=>by
  have d:=hs a zAb;have h:=zBc.1 h;have:=VT c (b.erase a) h.2 (λx f=>(List.mem_erase_of_ne (fun(e:x=a)=>h.1 (by rw[<-e];exact f))).2 (hs x (zAf _ f)));rw[List.length_erase_of_mem d]at this;have i:0<b.length:=List.length_pos_of_mem d;simp only[zAk];omega
def nz (x:Int):Bool:=decide (x≠0)
theorem Za (f:Nat) (l:aY) (h:l.length<f) (e:l.length<=1000):sB f l=some ((l.countP nz:Nat):Int):=by
 unfold sB;have:=cQ (step:=sY l) (K:=some ((l.countP nz:Nat):Int)) l.length (λk=>(((l.take k).countP nz:Nat),(k:Int))) (λk b c=>by
  have d:(l.take k).countP nz<=k:=zB3 List.countP_le_length (by simp;omega);unfold sY wV;dsimp only;rw[if_pos (by omega),cV (by omega),Bq c,List.countP_append,dL (by omega),dL (by omega)];by_cases a:at' l (k:Int)=0
  ·rw[if_neg (by simpa using a)];simp[nz,a]
  ·rw[if_pos a];simp[nz,a]) (λb=>by
  unfold sY Bt;dsimp only;rw[if_neg (by omega),List.take_length]) f h
 exact this
theorem KV (f:Nat) (l:aY) (x:Int) (h:l.length<f) (t:l.length<=1000):tR f l x=some (decide (x∈l)):=by
 have q:∃i:Int,rJ f l x=some i∧(0<=i↔x∈l):=by
  by_cases b:x∈l
  ·obtain⟨i,r,o⟩:=List.mem_iff_getElem.1 b;have a:∃i,i<l.length∧at' l (i:Int)=x∧∀j,j<i->at' l (j:Int)≠x:=by
    obtain⟨m,d,c,s⟩:=OT (p:=λi=>at' l (i:Int)=x) i (by rw[jI r,o]);exact⟨m,by omega,c,s⟩
   obtain⟨i,r,d,c⟩:=a;refine⟨i,?_,iff_of_true (by omega) b⟩
   unfold rJ;exact cQ (step:=kZ l x) (K:=some (i:Int)) i (λk=>(k:Int)) (λk n g=>by
    unfold kZ;rw[if_pos (by omega),cV (by omega),if_neg (λe=>c k g e.symm),dL (by omega)]) (λn=>by
    unfold kZ;rw[if_pos (by omega),cV (by omega),if_pos d.symm]) f (by omega)
  ·refine⟨-1,?_,iff_of_false (by omega) b⟩
   unfold rJ;exact cQ (step:=kZ l x) (K:=some (-1)) l.length (λk=>(k:Int)) (λk n g=>by
    unfold kZ;rw[if_pos (by omega),cV (by omega),if_neg (λe=>b (by rw[e,jI g];exact List.getElem_mem g)),dL (by omega)]) (λn=>by
    unfold kZ yL;rw[if_neg (by omega)]) f h
 obtain⟨i,d,c⟩:=q;unfold tR;rw[bA d];by_cases b:x∈l
 ·rw[zA5 b,zA5 (c.2 b)]
 ·rw[zA7 b,zA7 (λe=>b (c.1 e))]
def C_ (l:aY):Int:=match l.findIdx? nz with
 |some i=>(i:Int)
 |none=> -1
theorem DI {l:aY} {i:Nat} (a:i<l.length) (b:at' l (i:Int)≠0) (c:∀j,j<i->at' l (j:Int)=0):C_ l=i:=by
 have:l.findIdx? nz=some i:=by
  rw[List.findIdx?_eq_some_iff_getElem];refine⟨a,by rw[<-jI a];simpa [nz]using b,λj d=> ?_⟩
  have:=c j d;rw[jI (by omega)]at this;simp[nz,this]
 unfold C_;rw[this]
theorem DG {l:aY} (h:∀j,j<l.length->at' l (j:Int)=0):C_ l = -1:=by
 have:l.findIdx? nz=none:=by
  rw[List.findIdx?_eq_none_iff];intro x b;obtain⟨i,a,rfl⟩:=List.mem_iff_getElem.1 b;have:=h i a;rw[jI a]at this;simp[nz,this]
 unfold C_;rw[this]
theorem Zy (f:Nat) (l:aY) (h:l.length<f) (t:l.length<=1000):oD f l (λq=>qD f q)=some (C_ l):=by
 unfold oD;by_cases a:∃i,i<l.length∧at' l (i:Int)≠0
 ·obtain⟨i,s,o⟩:=a;obtain⟨m,r,n,b⟩:=OT (p:=λi=>at' l (i:Int)≠0) i o;have b:∀j,j<m->at' l (j:Int)=0:=λj d=>zAy.1 (b j d);rw[DI (by omega) n b];exact cQ (step:=iD l _) (K:=some (m:Int)) m (λk=>(k:Int)) (λk c g=>by
   unfold iD qD;rw[if_pos (by omega),cV (by omega),bA Z,if_neg (by simp[b k g]),dL (by omega)]) (λc=>by
   unfold iD qD;rw[if_pos (by omega),cV (by omega),bA Z,if_pos (by simpa using n)]) f (by omega)
 ·have a:∀j,j<l.length->at' l (j:Int)=0:=λj d=>zAy.1 λe=>a ⟨j,d,e⟩;rw[DG a];exact cQ (step:=iD l _) (K:=some (-1)) l.length (λk=>(k:Int)) (λk c g=>by
   unfold iD qD;rw[if_pos (by omega),cV (by omega),bA Z,if_neg (by simp[a k g]),dL (by omega)]) (λc=>by
   unfold iD qX;rw[if_neg (by omega)]) f h
def afB (l:aY):Int:=l.foldl min 1073741824
theorem afC (f:Nat) (l:aY) (h:l.length<f) (c:l.length<=1000):bL (vN l) f ((1073741824:Int),(0:Int))=some (afB l):=by
 exact cQ (step:=vN l) (K:=some (afB l)) l.length (λk=>((l.take k).foldl min 1073741824,(k:Int))) (λk a b=>by
  unfold vN;dsimp only;rw[if_pos (by omega),cV (by omega),Bq b,List.foldl_append,dL (by omega)];rfl) (λa=>by
  unfold vN CI;dsimp only;rw[if_neg (by omega),List.take_length];rfl) f h
def SD (l:aY):Nat->Nat->Nat
 |0,k=>k
 |f+1,k=>if((k:Nat):Int)∈l then SD l f (k+1)else k
def NV (l:aY):Nat:=SD l (l.length+1) 0
theorem SE (l:aY):((NV l:Nat):Int)∉l∧(∀j,j<NV l->((j:Nat):Int)∈l)∧NV l<=l.length:=by
 have key:∀(f k:Nat),(∀j,j<k->((j:Nat):Int)∈l)->(∀j,j<SD l f k->((j:Nat):Int)∈l)∧(SD l f k=k+f∨((SD l f k:Nat):Int)∉l):=by
  intro f
  induction f with
  |zero=>intro k h;exact⟨h,.inl Z⟩
  | succ f ih =>
   intro k h;by_cases hk:((k:Nat):Int)∈l
   ·have:=ih (k+1) (λj hj=>by
     rcases zAo j k with q|q
     ·exact h j q
     ·rw[show j=k by omega];exact hk)
    simp only[SD,if_pos hk];exact⟨this.1,this.2.imp (λe=>by omega) id⟩
   ·simp only[SD,if_neg hk];exact⟨h,.inr hk⟩
 have hle:∀m,(∀j,j<m->((j:Nat):Int)∈l)->m<=l.length:=λm h=>by
  have:=VT ((List.range m).map λj=>((j:Nat):Int)) l (by
   rw[List.nodup_iff_pairwise_ne,List.pairwise_map];exact(List.nodup_iff_pairwise_ne.1 List.nodup_range).imp (λh e=>h (by omega))) (λx hx=>by
   obtain⟨j,hj,rfl⟩:=zB4.1 hx;exact h j (zAm.1 hj))
  simpa using this
 obtain⟨h1,h2⟩:=key (l.length+1) 0 (λj hj=>by omega);have h3:=hle _ h1;refine⟨?_,h1,h3⟩
 rcases h2 with h2|h2
 ·have:SD l (l.length+1) 0<=l.length:=h3;omega
 ·exact h2
theorem afA (f:Nat) (l:aY) (h:l.length+2<f) (hl:l.length<=900):Df f l=some ((NV l:Nat):Int):=by
 obtain⟨h1,h2,h3⟩:=SE l;unfold Df;exact cQ (step:=BY f l) (K:=some ((NV l:Nat):Int)) (NV l) (λk=>(k:Int)) (λk ag hk=>by
  unfold BY;rw[bA (KV f l (k:Int) (by omega) (by omega)),if_pos (by simpa using h2 k hk),dL (by omega)]) (λag=>by
  unfold BY DF;rw[bA (KV f l _ (by omega) (by omega)),if_neg (by simpa using h1)]) f (by omega)
def adx (l:aY):Int:=l.foldl (λa x=>wI .i64 (a+x)) 0
theorem afQ (f:Nat) (l:aY) (h:l.length<f) (c:l.length<=1000):bL (vO f l) f ((0:Int),(0:Int))=Fe f (adx l):=by
 refine(cQ (step:=vO f l) l.length (λk=>(adx (l.take k),(k:Int))) (λk a b=> ?_) (λa=> ?_) f h).trans Z
 ·unfold vO;dsimp only;rw[if_pos (by omega),cV (by omega),dL (by omega),Bq b];unfold adx;rw[List.foldl_append];rfl
 ·unfold vO;dsimp only;rw[if_neg (by omega),List.take_length]
def MN (o:Int) (l:aY):Int:=
 if o=20 then Mt (l.all nz)else if o=21 then Mt (l.any nz)else if o=22 then((l.countP nz:Nat):Int)else if o=23 then C_ l else if o=24 then afB l else if o=26 then max (-1073741824) (min (adx l) 1073741824)else((NV l:Nat):Int)
theorem acG (f:Nat) (o:Int) (l:aY) (hf:40<=f) (hl:l.length<=24) (ho:o=20∨o=21∨o=22∨o=23∨o=24∨o=26∨o=27):DK f o l=some (MN o l):=by
 have hc:=Za f l (by omega) (by omega);unfold DK;rcases ho with rfl|rfl|rfl|rfl|rfl|rfl|rfl
 ·rw[if_pos Z,bA hc,bA (xR f _),MN,if_pos Z];have:(decide (((l.countP nz:Nat):Int)=(l.length:Int)))=l.all nz:=by
   rw[Bool.eq_iff_iff];simp[List.countP_eq_length,Int.ofNat_inj]
  rw[this]
 ·rw[if_neg (by decide),if_pos Z,bA hc,bA (xR f _),MN,if_neg (by decide),if_pos Z];have:(decide ((0:Int)<((l.countP nz:Nat):Int)))=l.any nz:=by
   rw[Bool.eq_iff_iff,zA8,List.any_eq_true,show((0:Int)<((l.countP nz:Nat):Int))↔0<l.countP nz by omega,List.countP_pos_iff]
  rw[this]
 ·rw[if_neg (by decide),if_neg (by decide),if_pos Z,bA hc];rfl
 ·rw[if_neg (by decide),if_neg (by decide),if_neg (by decide),if_pos Z,bA (Zy f l (by omega) (by omega))];rfl
 ·rw[if_neg (by decide),if_neg (by decide),if_neg (by decide),if_neg (by decide),if_pos Z,afC f l (by omega) (by omega)];rfl
 ·rw[if_neg (by decide),if_neg (by decide),if_neg (by decide),if_neg (by decide),if_neg (by decide),if_neg (by decide),if_pos Z,afQ f l (by omega) (by omega)];rfl
 ·rw[if_neg (by decide),if_neg (by decide),if_neg (by decide),if_neg (by decide),if_neg (by decide),if_neg (by decide),if_neg (by decide),if_pos Z,bA (afA f l (by omega) (by omega))];rfl
end Go.Proofs.YtahgemjmgopleaaGreatDoor
namespace Go.Proofs.YtahgemjmgopleaaGreatDoor
open Go.Sx
def yP  (a:bO):Option bO:=
 some (a)
def Ct (a:bO×Int) (c:GY->Option bO) (b:aY):Option bO:=
 ck ((a.1.length:Int)+(List.length ([b]):Int)<=1099511627) (c ((a.1++[b]),(wI .i64 (a.2+(1:Int)))))
def pK (U:Nat) (g:JQ) (h:aY) (e:bO×Int) (a:aY×Int) (c:(aY×Int)->Option bO) (b:eV):Option bO:=
 Option.bind (uS U h (wI .i64 ((wI .i64 (e.2*(g.length:Int)))+a.2))) λf=>(Option.bind (hZ U f (wI .i64 ((wI .i64 (b.2 - b.1))+(1:Int)))) λd=>(ck ((a.1.length:Int)+(List.length ([(wI .i64 (b.1+d))]):Int)<=1099511627) (c ((a.1++([(wI .i64 (b.1+d))])),(wI .i64 (a.2+(1:Int)))))))
def pL (U:Nat) (f:cC) (c:JQ) (g:aY) (h:Int) (b:bO×Int) (e:GY->Option bO) (a:aY×Int) (d:(aY×Int)->Option bO):Option bO:=
 if a.2<(c.length:Int)then(ck (0<=a.2∧a.2<(c.length:Int)) (ck (0<=a.2∧a.2<(c.length:Int)) (ck (0<=a.2∧a.2<(c.length:Int)) (ck (0<=a.2∧a.2<(c.length:Int)) (ck (0<=a.2∧a.2<(c.length:Int)) (if((at' c a.2).2.1)=(2:Int)then(pK U c g b a d ((0:Int),(1:Int)))else(if((at' c a.2).2.1)=(3:Int)then(ck (0<=b.2∧b.2<(f.2.length:Int)) (pK U c g b a d ((-1:Int),(wI .i64 (((at' f.2 b.2).length:Int) - (1:Int))))))else(pK U c g b a d (((at' c a.2).2.2.1),(wI .i64 ((wI .i64 (((at' c a.2).2.2.2.1)+(wI .i64 (((at' c a.2).2.2.2.2.1)*(f.2.length:Int)))))+(wI .i64 (((at' c a.2).2.2.2.2.2)*h)))))))))))))else(Ct b e (a.1))
def lA (U:Nat) (c:cC) (e:JQ) (f:aY) (d:Int) (a:bO×Int) (b:GY->Option bO):Option bO:=
 if a.2<(c.2.length:Int)then(bL (pL U c e f d a b) U (([]:aY),(0:Int)))else(yP  (a.1))
def sV (U:Nat) (b:cC) (c:JQ) (d:aY) (a:Int):Option bO:=
 bL (lA U b c d a) U (([]:bO),(0:Int))
def yQ (U:Nat) (c:cC) (d:JQ) (e:aY) (a:eV) (b:fO->Option bO):Option bO:=
 if a.2<(c.2.length:Int)then(ck (0<=a.2∧a.2<(c.1.length:Int)) (b ((max a.1 (at' c.1 a.2)),(wI .i64 (a.2+(1:Int))))))else(sV U c d e (a.1))
def oE (U:Nat) (a:cC) (b:JQ) (c:aY):Option bO:=
 bL (yQ U a b c) U ((0:Int),(0:Int))
theorem aer:aU Tryz.prog 11:=Tryz.call11
theorem NH (U:Nat) {g:cC} {n:JQ} {s:aY} (v:Value)  (w:Value)  (z2:jA)  (F:Value)  (y:Value) (r:bO) (h:oE U g n s=some r):
  aW Tryz.prog 11 #[Value.agg #[v,w],F,y] [Sl bR v g.1,S2 bD w z2 g.2,Sl aN F n,Sl bR y s] (λx:Ik=>x.1) (λx l=>Ar eO.raw x.1 x.2::jM cK x.2 r::l) (λ_ l=>l):=by
 refine aW.of Tryz.func11 Z Tryz.ntmps11 Z λc=>?_;unfold oE at h;refine aT<|aG (aM.box (cs:=[v,w]) Z Z) Z λp=>aB Z<|aL<|aT<|bN Z<|cT 0 Z<|aC (gE Z (aD.fact 1 Z) Z) Z<|aB Z<|aB Z<|aL<|aK<|dQ (λk=>sV U g n s k=some r) (λk b4=>[(1,F),(2,y),(3,vP p),(7,vI (g.2.length:Int)),(8,vI (k))]) (λk b4=>[bS p [v,w] 29]) ?_ ?_
 ·refine aT<|aB Z<|aL<|aS<|dZ (yQ U g n s) (λi J=>[(1,F),(2,y),(3,vP p),(7,vI (g.2.length:Int)),(8,vI (i.1)),(9,vI (i.2))]) (λi J=>[bS p [v,w] 29]) ((0:Int),(0:Int)) () h SF (a_.refl _) ?_;intro ac i J h;refine aK<|aT<|aA Z<|aA Z<|cN Z<|aL ?_;refine dY h Z (λh=>?_) λh=>?_
  ·refine cD<|aK<|aS<|aO<|aA Z<|bN Z<|cT 0 Z<|aA Z<|dB h λQ h=>aC (aZ Z Z (aD.fact 0 Z) Z Z Q) Z<|aC (bY Z (aD.fact 0 Z) Z Z Z eD Q) Z<|aC (FL Z Z) Z<|aB Z<|eM<|jE<|aO<|aA Z<|cB Z<|aB Z<|aL ?_;exact uG ((max i.1 (at' g.1 i.2)),(wI .i64 (i.2+(1:Int)))) () h SF Z
  refine eR ?_;exact fE (i.1) () h SF Z
 intro k b4 h;unfold sV at h;refine aT<|aB Z<|aL<|aK<|Bn (B:=Ik) (λH=>yP  H=some r) (λH A=>[(10,A.1)]) (λH A=>[Ar eO.raw A.1 A.2,jM cK A.2 H]) ?_ ?_
 ·refine aT<|aB Z<|aL<|aS<|eX (dG eO.raw) (eX (j_ cK) ?_);refine dZ (B:=Ik) (lA U g n s k) (λb a=>[(1,F),(2,y),(3,vP p),(7,vI (g.2.length:Int)),(8,vI (k)),(10,a.1),(11,vI (b.2))]) (λb a=>[bS p [v,w] 29,Ar eO.raw a.1 a.2,jM cK a.2 b.1]) (([]:bO),(0:Int)) ((iO),([]:fP)) h SF (a_.ix [2,1,0] Z Z) ?_;intro G b a h;refine aK<|aT<|aA Z<|aA Z<|cN Z<|aL ?_;refine dY h Z (λh=>?_) λh=>?_
  ·refine cD<|aK<|aS<|aT<|aB Z<|aL<|aK<|Bn (B:=Value) (λo=>Ct b (bL (lA U g n s k) G) o=some r) (λo j=>[(1,F),(2,y),(3,vP p),(7,vI (g.2.length:Int)),(8,vI (k)),(10,a.1),(11,vI (b.2)),(12,j)]) (λo j=>[bS p [v,w] 29,Ar eO.raw a.1 a.2,jM cK a.2 b.1,Ar cK j o]) ?_ ?_
   ·refine aT<|aB Z<|aL<|aS<|eX (dG cK)<|dZ (B:=Value) (pL U g n s k b (bL (lA U g n s k) G)) (λd m=>[(1,F),(2,y),(3,vP p),(7,vI (g.2.length:Int)),(8,vI (k)),(10,a.1),(11,vI (b.2)),(12,m),(13,vI (d.2))]) (λd m=>[bS p [v,w] 29,Ar eO.raw a.1 a.2,jM cK a.2 b.1,Ar cK m d.1]) (([]:aY),(0:Int)) (iO) h SF (a_.ix [1,2,3,0] Z Z) ?_;intro S d m h;refine aK<|aT<|aA Z<|aA Z<|gW (aD.fact 2 Z) Z<|cN Z<|aL ?_;refine dY h Z (λh=>?_) λh=>?_
    ·refine cD<|aK<|aS<|aK ?_;refine JR.start [0,0,3,7,15,0,0,96,224,480,0,0,3072,7168,15360,0,64512,131040,0,0,786432,1835008,3932160,0,16515072,33554400,31,134217727] 27 mixedOrders (by decide +kernel) ?_;refine zBl (by exact rfl) ?_;refine aX Z<|aX Z<|dB h λL h=>bG Z .nil (iI 2 Z) (aZ Z Z (aD.fact 0 Z) Z Z L) aP.z<|fW Z (dX Z Z Z Z Z)<|bG Z .nil (iI 2 Z) (fD Z (aD.fact 0 Z) Z Z Z AV L) aP.z<|aX Z<|aX Z<|dB h λM h=>bG Z .nil (iI 2 Z) (aZ Z Z (aD.fact 0 Z) Z Z M) aP.z<|fW Z (dX Z Z Z Z Z)<|bG Z .nil (iI 2 Z) (fD Z (aD.fact 0 Z) Z Z Z AW M) aP.z<|aX Z<|aX Z<|dB h λN h=>bG Z .nil (iI 2 Z) (aZ Z Z (aD.fact 0 Z) Z Z N) aP.z<|fW Z (dX Z Z Z Z Z)<|bG Z .nil (iI 2 Z) (fD Z (aD.fact 0 Z) Z Z Z AX N) aP.z<|aX Z<|fW Z (zT Z Z)<|fW Z (wH Z Z)<|aX Z<|aX Z<|dB h λO h=>bG Z .nil (iI 2 Z) (aZ Z Z (aD.fact 0 Z) Z Z O) aP.z<|fW Z (dX Z Z Z Z Z)<|bG Z .nil (iI 2 Z) (fD Z (aD.fact 0 Z) Z Z Z AY O) aP.z<|aX Z<|fW Z (zT Z Z)<|fW Z (wH Z Z)<|fW Z (qY Z)<|bK 27 Z Z<|aB Z<|aL<|aK<|dQ (λf=>pK U n s b d (bL (pL U g n s k b (bL (lA U g n s k) G)) S) f=some r) (λf I=>[(1,F),(2,y),(3,vP p),(7,vI (g.2.length:Int)),(8,vI (k)),(10,a.1),(11,vI (b.2)),(12,m),(13,vI (d.2)),(14,vI (f.1)),(15,vI (f.2))]) (λf I=>[bS p [v,w] 29,Ar eO.raw a.1 a.2,jM cK a.2 b.1,Ar cK m d.1]) ?_ ?_
     ·refine aT<|aA Z<|aA Z<|dB h λP h=>aC (aZ Z Z (aD.fact 2 Z) Z Z P) Z<|aC (dX Z Z Z Z Z) Z<|aC (fD Z (aD.fact 2 Z) Z Z Z lD P) Z<|aL<|aS<|aT<|bU Z<|aB Z<|aL ?_;refine dY h Z (λh=>?_) λh=>?_
      ·refine aO<|aB Z<|aB Z<|eM<|jE ?_;exact fE ((0:Int),(1:Int)) () h SF Z
      refine aT<|bU Z<|aB Z<|aL ?_;refine dY h Z (λh=>?_) λh=>?_
      ·refine JR.start [0,1,0,7,15,31,63,0,255] 8 mixedOrders (by decide +kernel) ?_;refine zBl (by exact rfl) ?_;refine cP Z<|fG 0 Z<|aX Z<|dB h λu h=>bG Z .nil (iI 1 Z) (b_ Z Z (aD.fact 0 Z) Z Z u) aP.z<|bG Z .nil (iI 1 Z) (bX Z (aD.fact 0 Z) Z Z u) aP.z<|bG Z .nil (iI 1 Z) (fV Z (zBj (aD.fact 0 Z) u.1 u.2) Z) aP.z<|fW Z (mM Z Z)<|fW Z (qY Z)<|bK 8 Z Z<|aB Z<|eM<|jE ?_;exact fE ((-1:Int),(wI .i64 (((at' g.2 b.2).length:Int) - (1:Int)))) () h SF Z
      refine cU<|jE ?_;exact fE (((at' n d.2).2.2.1),(wI .i64 ((wI .i64 (((at' n d.2).2.2.2.1)+(wI .i64 (((at' n d.2).2.2.2.2.1)*(g.2.length:Int)))))+(wI .i64 (((at' n d.2).2.2.2.2.2)*k))))) () h SF Z
     intro f I h;refine aO<|aA Z<|aA Z<|aA Z<|aA Z<|aA Z<|gW (aD.fact 2 Z) Z<|aC (zT Z Z) Z<|aA Z<|cB Z<|dN h λW aa h=>aG (zBi Mv (Du U y W aa) Z (jF [3] Z)) Z λaf=>aA Z<|aA Z<|aC (mM Z Z) Z<|cB Z<|dN h λt ab h=>aG (zBi E_ (kQ U  t ab) Z .nil) Z λag=>cB Z<|aG (cE (e:=cK) ([(wI .i64 (f.1+t))]) [(0,vI (wI .i64 (f.1+t)))] Z Z Z Z (gM (vI (wI .i64 (f.1+t))) Z) Z Z Z) Z λae=>dB h λR h=>aG (eG 4 dW Z Z Z (bB (aD.res 0 Z) dW) Z Z Z Z R Z) Z λY=>aB Z<|eM<|jE<|aO<|aA Z<|cB Z<|aB Z<|aL ?_;exact kM ((d.1++([(wI .i64 (f.1+t))])),(wI .i64 (d.2+(1:Int)))) (Y) h SF (a_.ix [1,2,3,4] Z Z) (aE.refl _ _)
    refine eR ?_;exact fE (d.1) (m) h SF Z
   intro o j h;refine aO<|aA Z<|aA Z<|eX (j_ cK)<|bQ (Know.one ((bB (aD.res 4 Z) dW))) λE=>eX (Mm 0 4 Z Z Z) ?_;refine aG (cE (e:=eO.raw) [j] [(0,j)] Z Z Z Z (gM (j) E) Z Z (by simp[cellsOf,eO.raw,E])) Z λad=>?_;refine bQ (eC 4 Z) λC=>bQ (eC 1 Z) λD=>dB h λK h=>eX (KR 4 1 Z Z Z) ?_;refine aG (aM.append 2 0 Z Z Z Z Z Z Z (by have q:=K;have T:=C;have V:=D;(try simp only[zAk,List.length_nil]at q T V ⊢);omega) (by have q:=K;have T:=C;have V:=D;(try simp only[zAk,List.length_nil]at q T V ⊢);omega) Z) Z λX=>?_;refine aB Z<|eM<|jE<|aO<|aA Z<|cB Z<|aB Z<|aL ?_;exact kM ((b.1++[o]),(wI .i64 (b.2+(1:Int)))) (X,(a.2++[j])) h SF (a_.ix [1,2,3] Z Z) (aE.refl _ _)
  refine eR ?_;exact bZ (b.1) (a.1,a.2) h SF (a_.ix [1,2] Z Z) (aE.refl _ _)
 intro H A h;unfold yP at h;refine aT<|aA Z<|aB Z<|aL<|aR ?_;cases h;exact iJ (A.1,A.2) Z Z (RV.tmp Z) (a_.refl _) aE.nil
def B_  (a:Bool):Option Bool:=
 some (a)
def qE (U:Nat) (a:Int) (b:Int) (c:Int):Option Bool:=
 if b<=a then(B_  (decide (a<=c)))else(B_  (false))
theorem Iu:aU Tryz.prog 78:=Tryz.call78
theorem zG (U:Nat) {b:Int} {f:Int} {d:Int} (r:Bool) (h:qE U b f d=some r):
  aW Tryz.prog 78 #[vI (b),vI (f),vI (d)] [] (λx:Unit=>vB (r)) (λx l=>l) (λ_ l=>l):=by
 refine aW.of Tryz.func78 Z Tryz.ntmps78 Z λc=>?_;refine aT<|aB Z<|aL<|aK<|dQ (λa=>B_  a=some r) (λa e=>[(6,vB (a))]) (λa e=>[]) ?_ ?_
 ·refine aO<|aA Z<|aA Z<|aC (zJ Z Z) Z<|aA Z ?_;refine AP h Z (λ_ h=>?_) λ_ h=>?_
  ·refine cJ Z<|cJ Z<|aQ Z (uE Z Z) Z<|dC Z<|aB Z<|aL ?_;exact fE (decide (b<=d)) () h SF Z
  refine aH Z<|aH Z<|aH Z<|dR Z<|aB Z<|aL ?_;exact fE (false) () h SF Z
 intro a e h;unfold B_ at h;refine aR ?_;cases h;exact gF Z
def qR  (a:Unit):Option Bool:=
 some (true)
def qS (b:Int) (a:(Int)->Option Bool) (c:Unit):Option Bool:=
 a (wI .i64 (b+(1:Int)))
def jK (d:e_) (b:Int) (e:(Int)->Option Bool) (a:Int) (c:(Int)->Option Bool):Option Bool:=
 if a<b then(ck (0<=a∧a<(d.length:Int)) (ck (0<=b∧b<(d.length:Int)) (if((at' d a).1)=((at' d b).1)then(some (false))else(c (wI .i64 (a+(1:Int)))))))else(qS b e (()))
def kU (U:Nat) (d:e_) (c:Int) (b:(Int)->Option Bool) (a:Bool):Option Bool:=
 if a=true then(some (false))else(bL (jK d c b) U (0:Int))
def iB (U:Nat) (b:e_) (f:Int) (g:Int) (a:Int) (c:(Int)->Option Bool):Option Bool:=
 if a<(b.length:Int)then(ck (0<=a∧a<(b.length:Int)) (Option.bind (qE U ((at' b a).1) (0:Int) (wI .i64 (g - (1:Int)))) λd=>(if(!d)=true then(kU U b a c (true))else(ck (0<=a∧a<(b.length:Int)) (if((at' b a).1)=f then(kU U b a c (true))else(ck (0<=a∧a<(b.length:Int)) (Option.bind (qE U ((at' b a).2) (1:Int) (15:Int)) λe=>(kU U b a c ((!e))))))))))else(qR  (()))
def lN (U:Nat) (a:e_) (b:Int) (c:Int):Option Bool:=
 bL (iB U a b c) U (0:Int)
theorem abE:aU Tryz.prog 118:=Tryz.call118
theorem IJ (U:Nat) {i:e_} {e:Int} {f:Int} (j:Value) (r:Bool) (h:lN U i e f=some r):
  aW Tryz.prog 118 #[j,vI (e),vI (f)] [Sl bD j i] (λx:Unit=>vB (r)) (λx l=>l) (λ_ l=>l):=by
 refine aW.of Tryz.func118 Z Tryz.ntmps118 Z λc=>?_;unfold lN at h;refine aT<|aB Z<|aL<|aK<|dQ (λv=>qR  v=some r) (λv D=>[]) (λv D=>[]) ?_ ?_
 ·refine aT<|aB Z<|aL<|aS<|dZ (iB U i e f) (λd E=>[(0,j),(1,vI (e)),(2,vI (f)),(7,vI (d))]) (λd E=>[]) (0:Int) () h SF (a_.refl _) ?_;intro y d E h;refine aK<|aT<|aA Z<|aA Z<|gW (aD.fact 0 Z) Z<|cN Z<|aL ?_;refine dY h Z (λh=>?_) λh=>?_
  ·refine cD<|aK<|dQ (λw=>qS d (bL (iB U i e f) y) w=some r) (λw k=>[(0,j),(1,vI (e)),(2,vI (f)),(7,vI (d))]) (λw k=>[]) ?_ ?_
   ·refine aS<|aK<|aK<|dQ (λa=>kU U i d (bL (iB U i e f) y) a=some r) (λa m=>[(0,j),(1,vI (e)),(2,vI (f)),(7,vI (d)),(41,vB (a))]) (λa m=>[]) ?_ ?_
    ·refine aO<|aA Z<|aA Z<|dB h λq h=>aC (aZ Z Z (aD.fact 0 Z) Z Z q) Z<|aC (dX Z Z Z Z Z) Z<|aC (fD Z (aD.fact 0 Z) Z Z Z jX q) Z<|aA Z<|aC (mM Z Z) Z<|dN h λA B h=>aG (zBi Iu (zG U  A B) Z .nil) Z λG=>aC (jC Z) Z<|aA Z ?_;refine rY (by exact rfl) (by exact rfl) (λb=>?_) (λb=>?_)
     ·have h:=Jl b h;refine aH Z<|aH Z<|aH Z<|aH Z<|aH Z<|aH Z<|aH Z<|dC Z<|aA Z<|aH Z<|aH Z<|aH Z<|aH Z<|aH Z<|aH Z<|aH Z<|dC Z<|aL ?_;exact fE (true) () h SF Z
     have h:=FZ b h;refine cJ Z<|cJ Z<|dB h λs h=>aQ Z (aZ Z Z (aD.fact 0 Z) Z Z s) Z<|aQ Z (dX Z Z Z Z Z) Z<|aQ Z (fD Z (aD.fact 0 Z) Z Z Z jX s) Z<|cJ Z<|aQ Z (FJ Z Z) Z<|dR Z<|aA Z ?_;refine AP h Z (λ_ h=>?_) λ_ h=>?_
     ·refine aH Z<|aH Z<|aH Z<|aH Z<|aH Z<|aH Z<|aH Z<|dC Z<|aL ?_;exact fE (true) () h SF Z
     refine cJ Z<|cJ Z<|dB h λt h=>aQ Z (aZ Z Z (aD.fact 0 Z) Z Z t) Z<|aQ Z (dX Z Z Z Z Z) Z<|aQ Z (fD Z (aD.fact 0 Z) Z Z Z EU t) Z<|dN h λu C h=>iP Z (zBi Iu (zG U  u C) Z .nil) Z λH=>aQ Z (jC Z) Z<|dR Z<|aL ?_;exact fE ((!u)) () h SF Z
    intro a m h;refine tP h Z (λ_ h=>?_) λ_ h=>?_
    ·refine aT<|aB Z<|aL<|aR<|aI<|bE<|aI<|aI<|bE<|aI ?_;cases h;exact gF Z
    refine cD<|aT<|aB Z<|aL<|aS<|dZ (jK i d (bL (iB U i e f) y)) (λg n=>[(0,j),(1,vI (e)),(2,vI (f)),(7,vI (d)),(8,vI (g))]) (λg n=>[]) (0:Int) () h SF (a_.refl _) ?_;intro F g n h;refine aK<|aT<|aA Z<|aA Z<|cN Z<|aL ?_;refine dY h Z (λh=>?_) λh=>?_
    ·refine cD<|aK<|aS<|aK ?_;refine JR.start [0,0,3,7,15,0,0,96,224,480,1023] 10 mixedOrders (by decide +kernel) ?_;refine zBl (by exact rfl) ?_;refine aX Z<|aX Z<|dB h λo h=>bG Z .nil (iI 0 Z) (aZ Z Z (aD.fact 0 Z) Z Z o) aP.z<|fW Z (dX Z Z Z Z Z)<|bG Z .nil (iI 0 Z) (fD Z (aD.fact 0 Z) Z Z Z jX o) aP.z<|aX Z<|aX Z<|dB h λp h=>bG Z .nil (iI 0 Z) (aZ Z Z (aD.fact 0 Z) Z Z p) aP.z<|fW Z (dX Z Z Z Z Z)<|bG Z .nil (iI 0 Z) (fD Z (aD.fact 0 Z) Z Z Z jX p) aP.z<|bK 10 Z Z<|bU Z<|aL ?_;refine dY h Z (λh=>?_) λh=>?_
     ·refine aT<|aB Z<|aL<|aR<|bE<|aI<|aI<|bE<|bE<|aI<|aI<|bE<|aI ?_;cases h;exact gF Z
     refine cU<|jE<|aO<|aA Z<|cB Z<|aB Z<|aL ?_;exact uG (wI .i64 (g+(1:Int))) () h SF Z
    refine mJ<|d_<|d_<|sJ<|jE ?_;exact fE () (()) h SF Z
   intro w k h;unfold qS at h;refine aO<|aA Z<|cB Z<|aB Z<|aL ?_;exact uG (wI .i64 (d+(1:Int))) () h SF Z
  refine eR ?_;exact fE () (()) h SF Z
 intro v D h;unfold qR at h;refine aT<|aB Z<|aL<|aR ?_;cases h;exact gF Z
def Ef  (a:Unit):Option (Int):=
 some (-1:Int)
def By (c:cC) (a:Int) (e:Int) (b:Int) (d:(Int)->Option (Int)):Option (Int):=
 ck (0<=a∧a<(c.2.length:Int)) (if b<((at' c.2 a).length:Int)then(ck (0<=a∧a<(c.2.length:Int)) (ck (0<=b∧b<((at' c.2 a).length:Int)) (if((at' (at' c.2 a) b).1)=e then(some (b))else(d (wI .i64 (b+(1:Int)))))))else(Ef  (())))
def vT (U:Nat) (a:cC) (b:Int) (c:Int):Option (Int):=
 bL (By a b c) U (0:Int)
theorem Vi:aU Tryz.prog 119:=Tryz.call119
theorem JJ (U:Nat) {g:cC} {i:Int} {j:Int} (k:Value)  (m:Value)  (q:jA) (r:Int) (h:vT U g i j=some r):
  aW Tryz.prog 119 #[Value.agg #[k,m],vI (i),vI (j)] [Sl bR k g.1,S2 bD m q g.2] (λx:Unit=>vI (r)) (λx l=>l) (λ_ l=>l):=by
 refine aW.of Tryz.func119 Z Tryz.ntmps119 Z λc=>?_;unfold vT at h;refine aT<|aG (aM.box (cs:=[k,m]) Z Z) Z λn=>aB Z<|aL<|aK<|dQ (λd=>Ef  d=some r) (λd o=>[]) (λd o=>[]) ?_ ?_
 ·refine aT<|aB Z<|aL<|aS<|dZ (By g i j) (λe p=>[(1,vI (i)),(2,vI (j)),(3,vP n),(7,vI (e))]) (λe p=>[bS n [k,m] 29]) (0:Int) () h SF (a_.refl _) ?_;intro s e p h;refine aK<|aT<|aA Z<|bN Z<|cT 0 Z<|aA Z<|dB h λf h=>aC (b_ Z Z (aD.fact 1 Z) Z Z f) Z<|aC (bX Z (aD.fact 1 Z) Z Z f) Z<|aC (fV Z (zBj (aD.fact 1 Z) f.1 f.2) Z) Z<|cN Z<|aL ?_;refine dY h Z (λh=>?_) λh=>?_
  ·refine cD<|aK<|aS<|aT<|bN Z<|cT 0 Z<|aA Z<|dB h λa h=>aC (b_ Z Z (aD.fact 1 Z) Z Z a) Z<|aC (bX Z (aD.fact 1 Z) Z Z a) Z<|aA Z<|dB h λb h=>aC (aZ Z Z (zBj (aD.fact 1 Z) a.1 a.2) Z Z b) Z<|aC (dX Z Z Z Z Z) Z<|aC (fD Z (zBj (aD.fact 1 Z) a.1 a.2) Z Z Z jX b) Z<|aA Z<|bU Z<|aL ?_;refine dY h Z (λh=>?_) λh=>?_
   ·refine aT<|aA Z<|aB Z<|aL<|aR<|bE<|aI<|aI<|bE<|aI ?_;cases h;exact mR Z
   refine cU<|jE<|aO<|aA Z<|cB Z<|aB Z<|aL ?_;exact uG (wI .i64 (e+(1:Int))) () h SF Z
  refine eR ?_;exact bZ () (()) h SF .nil (aE.refl _ _)
 intro d o h;unfold Ef at h;refine aT<|aB Z<|aL<|aR ?_;cases h;exact gF Z
def Ch  (a:Unit):Option (Int):=
 some (-1:Int)
def xZ (c:cC) (d:Int) (e:Int) (a:Int) (b:(Int)->Option (Int)):Option (Int):=
 if a<((at' c.2 d).length:Int)then(ck (0<=a∧a<((at' c.2 d).length:Int)) (if((at' (at' c.2 d) a).1)=e then(some (a))else(b (wI .i64 (a+(1:Int))))))else(Ch  (()))
def kO (U:Nat) (b:cC) (a:Int) (c:Int):Option (Int):=
 ck (0<=a∧a<(b.2.length:Int)) (bL (xZ b a c) U (0:Int))
theorem PW:aU Tryz.prog 172:=Tryz.call172
theorem Dt (U:Nat) {a:cC} {b:Int} {i:Int} (j:Value)  (k:Value)  (o:jA) (r:Int) (h:kO U a b i=some r):
  aW Tryz.prog 172 #[Value.agg #[j,k],vI (b),vI (i)] [Sl bR j a.1,S2 bD k o a.2] (λx:Unit=>vI (r)) (λx l=>l) (λ_ l=>l):=by
 refine aW.of Tryz.func172 Z Tryz.ntmps172 Z λc=>?_;refine aT<|aG (aM.box (cs:=[j,k]) Z Z) Z λq=>aB Z<|aL<|aK<|dQ (λg=>Ch  g=some r) (λg m=>[]) (λg m=>[]) ?_ ?_
 ·refine aT<|bN Z<|cT 0 Z<|aA Z<|dB h λe h=>aC (b_ Z Z (aD.fact 1 Z) Z Z e) Z<|aC (bX Z (aD.fact 1 Z) Z Z e) Z<|aC (fV Z (zBj (aD.fact 1 Z) e.1 e.2) Z) Z<|aA Z<|aL<|aS<|dZ (xZ a b i) (λd n=>[(2,vI (i)),(13,(at' o b).1),(14,vI ((at' a.2 b).length:Int)),(15,vI (d))]) (λd n=>[]) (0:Int) () h SF .nil ?_;intro s d n h;refine aT<|cN Z<|aL<|aK ?_;refine dY h Z (λh=>?_) λh=>?_
  ·refine cD<|aK<|aS<|aT<|aA Z<|dB h λf h=>aC (aZ Z Z (zBj (aD.fact 1 Z) e.1 e.2) Z Z f) Z<|aC (gX (cs:=[vI ((at' (at' a.2 b) d).1),vI ((at' (at' a.2 b) d).2)]) Z (zBj (aD.fact 1 Z) e.1 e.2) bV Z Z Z Z f) Z<|aG (aM.alloc (cs:=Rm) Z Z) Z λp=>aB Z<|bH 0 (vs:=[vI ((at' (at' a.2 b) d).1),vI ((at' (at' a.2 b) d).2)]) Z Z Z Z Z Z<|aL<|aT<|bN Z<|cT 0 Z<|aA Z<|bU Z<|aL ?_;refine dY h Z (λh=>?_) λh=>?_
   ·refine aT<|aA Z<|aB Z<|aL<|aR<|bE<|aI<|aI<|bE<|aI ?_;cases h;exact mR Z
   refine cU<|jE<|aO<|cB Z<|aA Z<|aL ?_;exact kM (wI .i64 (d+(1:Int))) () h SF .nil (aE.refl _ _)
  refine eR ?_;exact fE () (()) h SF Z
 intro g m h;unfold Ch at h;refine aT<|aB Z<|aL<|aR ?_;cases h;exact gF Z
def wK (b:cC) (a:iA):Option vF:=
 some ((b.1,a))
def mS (U:Nat) (b:EM) (d:cC) (a:Int×iA) (c:(Int×iA)->Option vF) (e:Bool):Option vF:=
 if e=true then(ck (0<=a.1∧a.1<(b.2.1.length:Int)) (Option.bind (hZ U (at' b.2.1 a.1) (d.2.length:Int)) λf=>(ck (0<=(wI .i64 (a.1+(1:Int)))∧(wI .i64 (a.1+(1:Int)))<(b.2.1.length:Int)) (Option.bind (hZ U (at' b.2.1 (wI .i64 (a.1+(1:Int)))) (d.2.length:Int)) λg=>(Option.bind (uS U b.2.2.1 a.1) λh=>(Option.bind (hZ U h (15:Int)) λi=>(Option.bind (nZ U ((b.1,b.2.1,b.2.2.1,b.2.2.2.1,b.2.2.2.2.1,b.2.2.2.2.2)) ((d.1,a.2)) f g (wI .i64 ((1:Int)+i))) λj=>(c ((wI .i64 (a.1+(2:Int))),j)))))))))else(wK d (a.2))
def qN (U:Nat) (c:EM) (d:cC) (a:Int×iA) (b:(Int×iA)->Option vF):Option vF:=
 if(wI .i64 (a.1+(1:Int)))<(c.2.1.length:Int)then(mS U c d a b (decide (a.1<(60:Int))))else(mS U c d a b (false))
def lM (U:Nat) (b:EM) (a:cC):Option vF:=
 bL (qN U b a) U ((a.2.length:Int),a.2)
theorem YE:aU Tryz.prog 28:=Tryz.call28
theorem Dp (U:Nat) {a:EM} {e:cC} (n:Value)  (m:Value)  (o:Value)  (f:Value)  (g:Value)  (O:fP) (r:GX) (h:lM U a e=some r):
  Io Tryz.prog 28 #[Value.agg #[vI (a.1),n,m,o,vB (a.2.2.2.2.1),vB (a.2.2.2.2.2)],Value.agg #[f,g]] [Ar cK f e.1,Ar eO.raw g O,jM cW O e.2] [Sl bR n a.2.1,Sl bR m a.2.2.1,Sl bR o a.2.2.2.1] (λx:Tk=>Value.agg #[x.1,x.2.1]) (λx l=>Ar cK x.1 r.1::Ar eO.raw x.2.1 x.2.2::jM cW x.2.2 r.2::l):=by
 refine Io.of (vs:=[Value.agg #[vI (a.1),n,m,o,vB (a.2.2.2.2.1),vB (a.2.2.2.2.2)],Value.agg #[f,g]]) Tryz.func28 Z Tryz.ntmps28 Z λc=>?_;unfold lM at h;refine aT<|aG (aM.box (cs:=[vI (a.1),n,m,o,vB (a.2.2.2.2.1),vB (a.2.2.2.2.2)]) Z Z) Z λv=>aG (aM.box (cs:=[f,g]) Z Z) Z λq=>aG (aM.alloc (cs:=[iO,iO]) Z Z) Z λs=>aL<|aT<|bN Z<|cT 1 Z<|aC (gE Z (bF (i:=4) (j:=5) Z Z bV) Z) Z<|aB Z<|aL<|aK<|Gg (B:=fP) (λt=>wK e t=some r) (λt u=>[(3,vP q),(4,vP s)]) (λt u=>[bS s [iO,iO] 29,bS q [f,g] 29,Ar cK f e.1,Ar eO.raw g u,jM cW u t]) (λt u=>[Sl bR n a.2.1,Sl bR m a.2.2.1,Sl bR o a.2.2.2.1]) ?_ ?_
 ·refine aT<|aA Z<|aB Z<|aL<|aS<|LB (B:=fP) (qN U a e) (λb d=>[(2,vP v),(3,vP q),(4,vP s),(5,vI (e.2.length:Int)),(6,vI (b.1))]) (λb d=>[bS s [iO,iO] 29,bS q [f,g] 29,bS v [vI (a.1),n,m,o,vB (a.2.2.2.2.1),vB (a.2.2.2.2.2)] 24,Ar cK f e.1,Ar eO.raw g d,jM cW d b.2]) (λb d=>[Sl bR n a.2.1,Sl bR m a.2.2.1,Sl bR o a.2.2.2.1]) ((e.2.length:Int),e.2) (O) h SF (a_.refl _) (aE.refl _ _) ?_;intro J b d h;refine aK<|aK<|Gg (B:=Unit) (λk=>mS U a e b (bL (qN U a e) J) k=some r) (λk p=>[(2,vP v),(3,vP q),(4,vP s),(5,vI (e.2.length:Int)),(6,vI (b.1)),(20,vB (k))]) (λk p=>[bS s [iO,iO] 29,bS q [f,g] 29,bS v [vI (a.1),n,m,o,vB (a.2.2.2.2.1),vB (a.2.2.2.2.2)] 24,Ar cK f e.1,Ar eO.raw g d,jM cW d b.2]) (λk p=>[Sl bR n a.2.1,Sl bR m a.2.2.1,Sl bR o a.2.2.2.1]) ?_ ?_
  ·refine aO<|aA Z<|cB Z<|bN Z<|cT 2 Z<|gW (aD.fact 0 Z) Z<|cN Z<|aA Z ?_;refine AP h Z (λ_ h=>?_) λ_ h=>?_
   ·refine cJ Z<|aQ Z (FK Z Z) Z<|dC Z<|aL ?_;exact fE (decide (b.1<(60:Int))) () h SF Z
   refine aH Z<|aH Z<|dR Z<|aL ?_;exact fE (false) () h SF Z
  intro k p h;refine tP h Z (λ_ h=>?_) λ_ h=>?_
  ·refine cD<|aK<|aS ?_;refine JR.start [0,0,0,4,0,28,60,0,252,0,512,0,2048,7680,15872,0,65532,0,131072,0,1048572,2097148,4194300,8388607] 23 mixedOrders (by decide +kernel) ?_;refine zBl (by exact rfl) ?_;refine gN 2 Z<|gN 1 Z<|cP Z<|fG 2 Z<|aX Z<|dB h λE h=>bG Z .nil (iI 0 Z) (aZ Z Z (aD.fact 0 Z) Z Z E) aP.z<|bG Z .nil (iI 0 Z) (bY Z (aD.fact 0 Z) Z Z Z eD E) aP.z<|aX Z<|dN h λK w h=>zBk Z Z Z (zBi E_ (kQ U  K w) Z .nil) Z (λP=>(oU [([1],[]),([2],[])] Z)) λP=>fW Z (cO Z Z Z Z Z)<|bG Z (a_.cons 2 Z .nil) .nil (dO 0 Z Z Z Z Z) (aP.h (a_.ix [2] Z Z) .nil aP.z)<|fW Z (eY Z)<|fW Z (wH Z Z)<|dB h λF h=>bG Z .nil (iI 0 Z) (aZ Z Z (aD.fact 0 Z) Z Z F) (aP.h .nil (iI 0 Z) aP.z)<|bG Z .nil (iI 0 Z) (bY Z (aD.fact 0 Z) Z Z Z eD F) (aP.h .nil (iI 0 Z) aP.z)<|fW Z (eY Z)<|dN h λL y h=>zBk Z Z Z (zBi E_ (kQ U  L y) Z .nil) Z (λQ=>(oU [([1],[]),([2],[])] Z)) λQ=>fW Z (cO Z Z Z Z Z)<|bG Z (a_.cons 2 Z .nil) .nil (dO 0 Z Z Z Z Z) (aP.h (a_.ix [2] Z Z) .nil (aP.h (a_.ix [2] Z Z) .nil aP.z))<|fW Z (eY Z)<|dN h λM A h=>zBk Z Z Z (zBi Mv (Du U m M A) Z (jF [1] Z)) Z (λR=>(oU [([1],[]),([2],[])] Z)) λR=>dN h λN C h=>zBk Z Z Z (zBi E_ (kQ U  N C) Z .nil) Z (λS=>(oU [([1],[]),([2],[])] Z)) λS=>fW Z (wH Z Z)<|bK 23 Z Z<|dN h λG D h=>aG (ES (Min:=[Ar eO.raw g d,jM cW d b.2]) (Mr:=[bS s [iO,iO] 29,bS q [f,g] 29,bS v [vI (a.1),n,m,o,vB (a.2.2.2.2.1),vB (a.2.2.2.2.2)] 24,Ar cK f e.1]) YM (Do U n m o f g d G D) Z (a_.ix [4,5,0,1,2,3] Z Z) (aE.cons (aD.fact 0 Z) (aE.cons (aD.fact 1 Z) (aE.cons (aD.fact 2 Z) (aE.cons (bB (aD.res 3 Z) dW) .nil)))) (λ_ _=>rfl)) Z λT=>eM<|jE<|aO<|aA Z<|cB Z<|aB Z<|aL ?_;exact kM ((wI .i64 (b.1+(2:Int))),G) (T) h SF (a_.ix [2,3,4,5,0,1] Z Z) (aE.refl _ _)
  refine eR ?_;exact bZ (b.2) (d) h SF (a_.ix [0,1,3,4,5] Z Z) (aE.refl _ _)
 intro t u h;unfold wK at h;refine aT<|cG 1 Z<|bQ (Know.one ((bB (aD.res 2 Z) dW))) λH=>bQ (Know.one (aD.sl (bF (i:=3) (j:=4) Z Z bV))) λI=>bH 0 (vs:=[f,g]) Z Z (c_ H (c_ I Z)) Z Z Z<|aL<|aR ?_;cases h;exact iJ (f,g,u) Z Z (RV.cell 0 Z Z Z Z) (a_.ix [2,3,4] Z Z) aE.nil
def mH (U:Nat) (a:EM) (d:Int):Option vF:=
 Option.bind (nY U ((a.1,a.2.1,a.2.2.1,a.2.2.2.1,a.2.2.2.2.1,a.2.2.2.2.2)) d) λb=>(Option.bind (lM U ((a.1,a.2.1,a.2.2.1,a.2.2.2.1,a.2.2.2.2.1,a.2.2.2.2.2)) ((b.1,b.2))) λc=>(some ((c.1,c.2))))
theorem aew:aU Tryz.prog 27:=Tryz.call27
theorem EI (U:Nat) {a:EM} {o:Int} (d:Value)  (e:Value)  (f:Value) (r:GX) (h:mH U a o=some r):
  aW Tryz.prog 27 #[Value.agg #[vI (a.1),d,e,f,vB (a.2.2.2.2.1),vB (a.2.2.2.2.2)],vI (o)] [Sl bR d a.2.1,Sl bR e a.2.2.1,Sl bR f a.2.2.2.1] (λx:Tk=>Value.agg #[x.1,x.2.1]) (λx l=>Ar cK x.1 r.1::Ar eO.raw x.2.1 x.2.2::jM cW x.2.2 r.2::l) (λ_ l=>l):=by
 refine aW.of Tryz.func27 Z Tryz.ntmps27 Z λc=>?_;refine aT<|aG (aM.box (cs:=[vI (a.1),d,e,f,vB (a.2.2.2.2.1),vB (a.2.2.2.2.2)]) Z Z) Z λp=>aG (aM.alloc (cs:=[iO,iO]) Z Z) Z λq=>aL<|aK ?_;refine JR.start [0,0,0,6,15,31] 4 mixedOrders (by decide +kernel) ?_;refine zBl (by exact rfl) ?_;refine gN 1 Z<|gN 1 Z<|aX Z<|dN h λn t h=>zBk Z Z Z (zBi YH (Dn U d e f n t) Z (jF [0,1,2] Z)) Z (λb=>(oU [([4],[])] Z)) λb=>bK 4 Z Z<|dN h λs u h=>aG (ES (Min:=[Ar cK b.1 n.1,Ar eO.raw b.2.1 b.2.2,jM cW b.2.2 n.2]) (Mr:=[bS q [iO,iO] 29,bS p [vI (a.1),d,e,f,vB (a.2.2.2.2.1),vB (a.2.2.2.2.2)] 24]) YE (Dp U d e f b.1 b.2.1 b.2.2 s u) Z (a_.refl _) (jF [0,1,2] Z) (λ_ _=>rfl)) Z λk=>bQ (Know.one ((bB (aD.res 0 Z) dW))) λm=>bQ (Know.one (aD.sl (bF (i:=1) (j:=2) Z Z bV))) λg=>bH 3 (vs:=[k.1,k.2.1]) Z Z (c_ m (c_ g Z)) Z Z Z<|aL<|aR ?_;cases h;exact iJ (k.1,k.2.1,k.2.2) Z Z (RV.cell 3 Z Z Z Z) (a_.ix [0,1,2] Z Z) aE.nil
def uW  (a:Unit):Option Bool:=
 some (true)
def uX (b:Int) (a:(Int)->Option Bool) (c:Unit):Option Bool:=
 a (wI .i64 (b+(1:Int)))
def uY (b:Int) (a:(Int)->Option Bool) (c:Bool):Option Bool:=
 if c=true then(some (false))else(a (wI .i64 (b+(1:Int))))
def fL (U:Nat) (c:cC) (a:Int) (f:(Int)->Option Bool) (b:Int) (e:(Int)->Option Bool):Option Bool:=
 ck (0<=a∧a<(c.2.length:Int)) (if b<((at' c.2 a).length:Int)then(ck (0<=a∧a<(c.2.length:Int)) (ck (0<=b∧b<((at' c.2 a).length:Int)) (Option.bind (vT U ((c.1,c.2)) ((at' (at' c.2 a) b).1) a) λd=>(if d<(0:Int)then(uY b e (true))else(ck (0<=((at' (at' c.2 a) b).1)∧((at' (at' c.2 a) b).1)<(c.2.length:Int)) (ck (0<=d∧d<((at' c.2 ((at' (at' c.2 a) b).1)).length:Int)) (uY b e (decide (((at' (at' c.2 ((at' (at' c.2 a) b).1)) d).2)≠((at' (at' c.2 a) b).2))))))))))else(uX a f (())))
def gR (U:Nat) (c:cC) (a:Int) (b:(Int)->Option Bool):Option Bool:=
 if a<(c.2.length:Int)then(bL (fL U c a b) U (0:Int))else(uW  (()))
def oH (U:Nat) (a:cC) (b:Unit):Option Bool:=
 bL (gR U a) U (0:Int)
def uZ (b:Int) (a:(Int)->Option Bool) (c:Unit):Option Bool:=
 a (wI .i64 (b+(1:Int)))
def h_ (e:cC) (a:Int) (c:(Int)->Option Bool) (b:Int) (d:(Int)->Option Bool):Option Bool:=
 if b<a then(ck (0<=b∧b<(e.1.length:Int)) (ck (0<=a∧a<(e.1.length:Int)) (if(at' e.1 b)=(at' e.1 a)then(some (false))else(d (wI .i64 (b+(1:Int)))))))else(uZ a c (()))
def mB (U:Nat) (d:cC) (b:Int) (a:(Int)->Option Bool) (c:Bool):Option Bool:=
 if c=true then(some (false))else(bL (h_ d b a) U (0:Int))
def gS (U:Nat) (b:cC) (a:Int) (c:(Int)->Option Bool):Option Bool:=
 if a<(b.2.length:Int)then(ck (0<=a∧a<(b.1.length:Int)) (Option.bind (qE U (at' b.1 a) (0:Int) (255:Int)) λd=>(if(!d)=true then(mB U b a c (true))else(ck (0<=a∧a<(b.2.length:Int)) (if(b.2.length:Int)<=((at' b.2 a).length:Int)then(mB U b a c (true))else(ck (0<=a∧a<(b.2.length:Int)) (Option.bind (lN U (at' b.2 a) a (b.2.length:Int)) λe=>(mB U b a c ((!e))))))))))else(oH U b (()))
def uV (U:Nat) (b:cC) (a:Bool):Option Bool:=
 if a=true then(some (false))else(bL (gS U b) U (0:Int))
def iZ (U:Nat) (a:cC):Option Bool:=
 Option.bind (qE U (a.2.length:Int) (1:Int) (24:Int)) λb=>(if(!b)=true then(uV U a (true))else(uV U a (decide ((a.1.length:Int)≠(a.2.length:Int)))))
theorem Uf:aU Tryz.prog 72:=Tryz.call72
theorem Ek (U:Nat) {a:cC} (g:Value)  (i:Value)  (z2:jA) (r:Bool) (h:iZ U a=some r):
  aW Tryz.prog 72 #[Value.agg #[g,i]] [Sl bR g a.1,S2 bD i z2 a.2] (λx:Unit=>vB (r)) (λx l=>l) (λ_ l=>l):=by
 refine aW.of Tryz.func72 Z Tryz.ntmps72 Z λc=>?_;refine aT<|aG (aM.box (cs:=[g,i]) Z Z) Z λf=>aB Z<|aL<|aT<|bN Z<|cT 0 Z<|aC (gE Z (aD.fact 1 Z) Z) Z<|aB Z<|aL<|aK<|aK<|dQ (λC=>uV U a C=some r) (λC b4=>[(1,vP f),(3,vI (a.2.length:Int)),(22,vB (C))]) (λC b4=>[bS f [g,i] 29]) ?_ ?_
 ·refine aO<|aA Z<|dN h λX ac h=>aG (zBi Iu (zG U  X ac) Z .nil) Z λai=>aC (jC Z) Z<|aA Z ?_;refine rY (by exact rfl) (by exact rfl) (λq=>?_) (λq=>?_)
  ·have h:=Jl q h;refine aH Z<|aH Z<|aH Z<|aH Z<|aH Z<|dC Z<|aL ?_;exact fE (true) () h SF Z
  have h:=FZ q h;refine aQ Z (cO Z Z Z Z Z) Z<|aQ Z (dO 0 Z Z Z Z Z) Z<|aQ Z (fV Z (aD.fact 0 Z) Z) Z<|cJ Z<|aQ Z (CW Z Z) Z<|dR Z<|aL ?_;exact fE (decide ((a.1.length:Int)≠(a.2.length:Int))) () h SF Z
 intro C b4 h;refine tP h Z (λ_ h=>?_) λ_ h=>?_
 ·refine aT<|aB Z<|aL<|aR<|aI ?_;cases h;exact mR Z
 refine cD<|aK<|dQ (λS=>oH U a S=some r) (λS b7=>[(1,vP f),(3,vI (a.2.length:Int))]) (λS b7=>[bS f [g,i] 29]) ?_ ?_
 ·refine aT<|aB Z<|aL<|aS<|dZ (gS U a) (λe H=>[(1,vP f),(3,vI (a.2.length:Int)),(4,vI (e))]) (λe H=>[bS f [g,i] 29]) (0:Int) () h SF (a_.refl _) ?_;intro B e H h;refine aK<|aT<|aA Z<|aA Z<|cN Z<|aL ?_;refine dY h Z (λh=>?_) λh=>?_
  ·refine cD<|aK<|dQ (λt=>uZ e (bL (gS U a) B) t=some r) (λt I=>[(1,vP f),(3,vI (a.2.length:Int)),(4,vI (e))]) (λt I=>[bS f [g,i] 29]) ?_ ?_
   ·refine aS<|aK<|aK<|dQ (λn=>mB U a e (bL (gS U a) B) n=some r) (λn J=>[(1,vP f),(3,vI (a.2.length:Int)),(4,vI (e)),(55,vB (n))]) (λn J=>[bS f [g,i] 29]) ?_ ?_
    ·refine aO<|bN Z<|cT 0 Z<|aA Z<|dB h λP h=>aC (aZ Z Z (aD.fact 0 Z) Z Z P) Z<|aC (bY Z (aD.fact 0 Z) Z Z Z eD P) Z<|dN h λW aa h=>aG (zBi Iu (zG U  W aa) Z .nil) Z λag=>aC (jC Z) Z<|aA Z ?_;refine rY (by exact rfl) (by exact rfl) (λp=>?_) (λp=>?_)
     ·have h:=Jl p h;refine aH Z<|aH Z<|aH Z<|aH Z<|aH Z<|aH Z<|aH Z<|aH Z<|dC Z<|aA Z<|aH Z<|aH Z<|aH Z<|aH Z<|aH Z<|aH Z<|aH Z<|aH Z<|aH Z<|dC Z<|aL ?_;exact fE (true) () h SF Z
     have h:=FZ p h;refine aQ Z (cO Z Z Z Z Z) Z<|aQ Z (dO 0 Z Z Z Z Z) Z<|cJ Z<|dB h λw h=>aQ Z (b_ Z Z (aD.fact 1 Z) Z Z w) Z<|aQ Z (bX Z (aD.fact 1 Z) Z Z w) Z<|aQ Z (fV Z (zBj (aD.fact 1 Z) w.1 w.2) Z) Z<|cJ Z<|aQ Z (zJ Z Z) Z<|dR Z<|aA Z ?_;refine AP h Z (λ_ h=>?_) λ_ h=>?_
     ·refine aH Z<|aH Z<|aH Z<|aH Z<|aH Z<|aH Z<|aH Z<|aH Z<|aH Z<|dC Z<|aL ?_;exact fE (true) () h SF Z
     refine aQ Z (cO Z Z Z Z Z) Z<|aQ Z (dO 0 Z Z Z Z Z) Z<|cJ Z<|dB h λy h=>aQ Z (b_ Z Z (aD.fact 1 Z) Z Z y) Z<|aQ Z (bX Z (aD.fact 1 Z) Z Z y) Z<|cJ Z<|cJ Z<|dN h λR ab h=>iP Z (zBi abE (IJ U ((at' z2 e).1) R ab) Z (aE.cons (zBj (aD.fact 1 Z) y.1 y.2) .nil)) Z λah=>aQ Z (jC Z) Z<|dR Z<|aL ?_;exact fE ((!R)) () h SF Z
    intro n J h;refine tP h Z (λ_ h=>?_) λ_ h=>?_
    ·refine aT<|aB Z<|aL<|aR<|aI<|bE<|aI<|aI<|bE<|aI ?_;cases h;exact mR Z
    refine cD<|aT<|aB Z<|aL<|aS<|dZ (h_ a e (bL (gS U a) B)) (λu K=>[(1,vP f),(3,vI (a.2.length:Int)),(4,vI (e)),(5,vI (u))]) (λu K=>[bS f [g,i] 29]) (0:Int) () h SF (a_.refl _) ?_;intro ae u K h;refine aK<|aT<|aA Z<|aA Z<|cN Z<|aL ?_;refine dY h Z (λh=>?_) λh=>?_
    ·refine cD<|aK<|aS<|aK ?_;refine JR.start [0,1,0,7,15,0,32,0,224,480,1023] 10 mixedOrders (by decide +kernel) ?_;refine zBl (by exact rfl) ?_;refine cP Z<|fG 0 Z<|aX Z<|dB h λN h=>bG Z .nil (iI 0 Z) (aZ Z Z (aD.fact 0 Z) Z Z N) aP.z<|bG Z .nil (iI 0 Z) (bY Z (aD.fact 0 Z) Z Z Z eD N) aP.z<|cP Z<|fG 0 Z<|aX Z<|dB h λO h=>bG Z .nil (iI 0 Z) (aZ Z Z (aD.fact 0 Z) Z Z O) aP.z<|bG Z .nil (iI 0 Z) (bY Z (aD.fact 0 Z) Z Z Z eD O) aP.z<|bK 10 Z Z<|bU Z<|aL ?_;refine dY h Z (λh=>?_) λh=>?_
     ·refine aT<|aB Z<|aL<|aR<|bE<|aI<|aI<|bE<|bE<|aI<|aI<|bE<|aI ?_;cases h;exact mR Z
     refine cU<|jE<|aO<|aA Z<|cB Z<|aB Z<|aL ?_;exact uG (wI .i64 (u+(1:Int))) () h SF Z
    refine mJ<|d_<|d_<|sJ<|jE ?_;exact fE () (()) h SF Z
   intro t I h;unfold uZ at h;refine aO<|aA Z<|cB Z<|aB Z<|aL ?_;exact uG (wI .i64 (e+(1:Int))) () h SF Z
  refine eR ?_;exact fE () (()) h SF Z
 intro S b7 h;unfold oH at h;refine aK<|dQ (λT=>uW  T=some r) (λT b9=>[]) (λT b9=>[]) ?_ ?_
 ·refine aT<|aB Z<|aL<|aS<|dZ (gR U a) (λb D=>[(1,vP f),(3,vI (a.2.length:Int)),(6,vI (b))]) (λb D=>[bS f [g,i] 29]) (0:Int) () h SF (a_.refl _) ?_;intro A b D h;refine aK<|aT<|aA Z<|aA Z<|cN Z<|aL ?_;refine dY h Z (λh=>?_) λh=>?_
  ·refine cD<|aK<|dQ (λs=>uX b (bL (gR U a) A) s=some r) (λs E=>[(1,vP f),(3,vI (a.2.length:Int)),(6,vI (b))]) (λs E=>[bS f [g,i] 29]) ?_ ?_
   ·refine aS<|aT<|aB Z<|aL<|aS<|dZ (fL U a b (bL (gR U a) A)) (λd F=>[(1,vP f),(3,vI (a.2.length:Int)),(6,vI (b)),(7,vI (d))]) (λd F=>[bS f [g,i] 29]) (0:Int) () h SF (a_.refl _) ?_;intro V d F h;refine aK<|aT<|aA Z<|bN Z<|cT 0 Z<|aA Z<|dB h λv h=>aC (b_ Z Z (aD.fact 1 Z) Z Z v) Z<|aC (bX Z (aD.fact 1 Z) Z Z v) Z<|aC (fV Z (zBj (aD.fact 1 Z) v.1 v.2) Z) Z<|cN Z<|aL ?_;refine dY h Z (λh=>?_) λh=>?_
    ·refine cD<|aK<|aS<|aT<|bN Z<|cT 0 Z<|aA Z<|dB h λj h=>aC (b_ Z Z (aD.fact 1 Z) Z Z j) Z<|aC (bX Z (aD.fact 1 Z) Z Z j) Z<|aA Z<|dB h λL h=>aC (aZ Z Z (zBj (aD.fact 1 Z) j.1 j.2) Z Z L) Z<|aC (gX (cs:=[vI ((at' (at' a.2 b) d).1),vI ((at' (at' a.2 b) d).2)]) Z (zBj (aD.fact 1 Z) j.1 j.2) bV Z Z Z Z L) Z<|aG (aM.alloc (cs:=Rm) Z Z) Z λad=>bH 0 (vs:=[vI ((at' (at' a.2 b) d).1),vI ((at' (at' a.2 b) d).2)]) Z Z Z Z Z Z<|aL<|aT<|cG 1 Z<|bN Z<|cT 0 Z<|aA Z<|dN h λQ Y h=>aG (zBi Vi (JJ U g i z2 Q Y) Z (jF [0,1] Z)) Z λaf=>aB Z<|aL<|aK<|dQ (λm=>uY d (bL (fL U a b (bL (gR U a) A)) V) m=some r) (λm G=>[(1,vP f),(3,vI (a.2.length:Int)),(6,vI (b)),(7,vI (d)),(116,vB (m))]) (λm G=>[bS f [g,i] 29]) ?_ ?_
     ·refine JR.start [0,1,3,7,15,7,39,127,255,7,1023,2047,4095,7,8199,32767,65535] 15 mixedOrders (by decide +kernel) ?_;refine zBl (by exact rfl) ?_;refine aX Z<|fW Z (FK Z Z)<|aX Z ?_;refine Bb (by exact rfl) (by exact rfl) (by exact rfl) (λo=>?_) (λo=>?_)
      ·have h:=Jl o h;refine aV Z Z Z Z<|aV Z Z Z Z<|aV Z Z Z Z<|aV Z Z Z Z<|aV Z Z Z Z<|aV Z Z Z Z<|aV Z Z Z Z<|aV Z Z Z Z<|aV Z Z Z Z<|aV Z Z Z Z<|aV Z Z Z Z<|aV Z Z Z Z<|bK 15 Z Z<|aH Z<|dC Z<|aL ?_;exact bZ (true) () h SF (a_.ix [1] Z Z) (aE.refl _ _)
      have h:=ZI o h;refine eN Z .nil .nil (cO Z Z Z Z Z) aP.z<|eN Z (a_.cons 1 Z .nil) .nil (dO 0 Z Z Z Z Z) aP.z<|eN Z .nil .nil (cO Z Z Z Z Z) aP.z<|eN Z (a_.cons 0 Z .nil) .nil (dO 0 Z Z Z Z Z) aP.z<|dB h λk h=>eN Z .nil (iI 1 Z) (b_ Z Z (aD.fact 0 Z) Z Z k) aP.z<|eN Z .nil (iI 1 Z) (bX Z (aD.fact 0 Z) Z Z k) aP.z<|eN Z .nil .nil (eY Z) aP.z<|dB h λM h=>eN Z .nil (iI 1 Z) (aZ Z Z (zBj (aD.fact 0 Z) k.1 k.2) Z Z M) aP.z<|eN Z .nil .nil (dX Z Z Z Z Z) aP.z<|eN Z .nil (iI 1 Z) (fD Z (zBj (aD.fact 0 Z) k.1 k.2) Z Z Z EU M) aP.z<|eN Z .nil .nil (cO Z Z Z Z Z) aP.z<|eN Z (a_.cons 0 Z .nil) .nil (dO 0 Z Z Z Z Z) aP.z<|bK 15 Z Z<|aQ Z (CW Z Z) Z<|dR Z<|aL ?_;exact bZ (decide (((at' (at' a.2 ((at' (at' a.2 b) d).1)) Q).2)≠((at' (at' a.2 b) d).2))) () h SF (a_.ix [1] Z Z) (aE.refl _ _)
     intro m G h;refine tP h Z (λ_ h=>?_) λ_ h=>?_
     ·refine aT<|aB Z<|aL<|aR<|bE<|aI<|aI<|bE<|bE<|aI<|aI<|bE<|aI ?_;cases h;exact mR Z
     refine cU<|jE<|aO<|aA Z<|cB Z<|aB Z<|aL ?_;exact uG (wI .i64 (d+(1:Int))) () h SF Z
    refine mJ<|d_<|d_<|sJ<|jE ?_;exact fE () (()) h SF Z
   intro s E h;unfold uX at h;refine aO<|aA Z<|cB Z<|aB Z<|aL ?_;exact uG (wI .i64 (b+(1:Int))) () h SF Z
  refine eR ?_;exact bZ () (()) h SF .nil (aE.refl _ _)
 intro T b9 h;unfold uW at h;refine aT<|aB Z<|aL<|aR ?_;cases h;exact gF Z
def CP  (a:Int):Option (Int):=
 some (a)
def Au (a:eV) (c:fO->Option (Int)) (b:Bool):Option (Int):=
 if b=true then(ck (0<=(wI .u64 a.2)) (c ((I_ .u32 a.1 (AS .u32 (1:Int) (wI .u64 a.2))),(wI .i64 (a.2+(1:Int))))))else(CP  (a.1))
def Av (c:Int) (b:eV) (a:fO->Option (Int)):Option (Int):=
 if b.2<c then(Au b a (decide (b.2<(32:Int))))else(Au b a (false))
def nC (U:Nat) (a:Int):Option (Int):=
 bL (Av a) U ((0:Int),(0:Int))
theorem PZ:aU Tryz.prog 73:=Tryz.call73
theorem DO (U:Nat) {d:Int} (r:Int) (h:nC U d=some r):
  aW Tryz.prog 73 #[vI (d)] [] (λx:Unit=>vU (r)) (λx l=>l) (λ_ l=>l):=by
 refine aW.of Tryz.func73 Z Tryz.ntmps73 Z λc=>?_;unfold nC at h;refine aT<|aB Z<|aL<|aT<|aB Z<|aL<|aK<|dQ (λe=>CP  e=some r) (λe i=>[(3,vU (e))]) (λe i=>[]) ?_ ?_
 ·refine aT<|aB Z<|aL<|aS<|dZ (Av d) (λa j=>[(0,vI (d)),(3,vU (a.1)),(4,vI (a.2))]) (λa j=>[]) ((0:Int),(0:Int)) () h SF (a_.refl _) ?_;intro k a j h;refine aK<|aK<|dQ (λb=>Au a (bL (Av d) k) b=some r) (λb f=>[(0,vI (d)),(3,vU (a.1)),(4,vI (a.2)),(11,vB (b))]) (λb f=>[]) ?_ ?_
  ·refine aO<|aA Z<|aA Z<|cN Z<|aA Z ?_;refine AP h Z (λ_ h=>?_) λ_ h=>?_
   ·refine cJ Z<|aQ Z (FK Z Z) Z<|dC Z<|aL ?_;exact fE (decide (a.2<(32:Int))) () h SF Z
   refine aH Z<|aH Z<|dR Z<|aL ?_;exact fE (false) () h SF Z
  intro b f h;refine tP h Z (λ_ h=>?_) λ_ h=>?_
  ·refine cD<|aK<|aS<|aO<|aA Z<|aA Z<|aC (EX Z Z Z) Z<|dB h λg h=>aC (HQ Z Z g) Z<|aC (PG Z Z) Z<|aB Z<|eM<|jE<|aO<|aA Z<|cB Z<|aB Z<|aL ?_;exact uG ((I_ .u32 a.1 (AS .u32 (1:Int) (wI .u64 a.2))),(wI .i64 (a.2+(1:Int)))) () h SF Z
  refine eR ?_;exact fE (a.1) () h SF Z
 intro e i h;unfold CP at h;refine aT<|aA Z<|aB Z<|aL<|aR ?_;cases h;exact gF Z
def vZ  (a:Bool):Option Bool:=
 some (a)
def pW (U:Nat) (b:Int) (a:Int):Option Bool:=
 if(0:Int)<=a then(if a<(32:Int)then(ck (0<=(wI .u64 a)) (vZ  (decide ((dD .u32 (pQ .u32 b (wI .u64 a)) (1:Int))=(1:Int)))))else(vZ  (false)))else(vZ  (false))
theorem Ke:aU Tryz.prog 70:=Tryz.call70
theorem zO (U:Nat) {b:Int} {d:Int} (r:Bool) (h:pW U b d=some r):
  aW Tryz.prog 70 #[vU (b),vI (d)] [] (λx:Unit=>vB (r)) (λx l=>l) (λ_ l=>l):=by
 refine aW.of Tryz.func70 Z Tryz.ntmps70 Z λc=>?_;refine aT<|aB Z<|aL<|aK<|dQ (λa=>vZ  a=some r) (λa e=>[(4,vB (a))]) (λa e=>[]) ?_ ?_
 ·refine aO<|aA Z<|aC (zJ Z Z) Z<|aA Z ?_;refine AP h Z (λ_ h=>?_) λ_ h=>?_
  ·refine cJ Z<|aQ Z (FK Z Z) Z<|dC Z<|aA Z ?_;refine AP h Z (λ_ h=>?_) λ_ h=>?_
   ·refine cJ Z<|cJ Z<|aQ Z (EX Z Z Z) Z<|dB h λf h=>aQ Z (HR Z Z f) Z<|aQ Z (Oz Z Z) Z<|aQ Z (FJ Z Z) Z<|dC Z<|aB Z<|aL ?_;exact fE (decide ((dD .u32 (pQ .u32 b (wI .u64 d)) (1:Int))=(1:Int))) () h SF Z
   refine aH Z<|aH Z<|aH Z<|aH Z<|aH Z<|aH Z<|dR Z<|aB Z<|aL ?_;exact fE (false) () h SF Z
  refine aH Z<|aH Z<|dR Z<|aA Z<|aH Z<|aH Z<|aH Z<|aH Z<|aH Z<|aH Z<|dR Z<|aB Z<|aL ?_;exact fE (false) () h SF Z
 intro a e h;unfold vZ at h;refine aR ?_;cases h;exact gF Z
def qP  (a:Int):Option (Int):=
 some (a)
def qQ (b:eV) (a:fO->Option (Int)) (c:Int):Option (Int):=
 a (c,(wI .i64 (b.2+(1:Int))))
def mW (b:eV) (a:fO->Option (Int)) (c:Int):Option (Int):=
 a (c,(wI .i64 (b.2+(1:Int))))
def kT (U:Nat) (e:cC) (g:Int) (a:eV) (d:fO->Option (Int)) (b:eV) (c:fO->Option (Int)):Option (Int):=
 ck (0<=a.2∧a.2<(e.2.length:Int)) (if b.2<((at' e.2 a.2).length:Int)then(ck (0<=a.2∧a.2<(e.2.length:Int)) (ck (0<=b.2∧b.2<((at' e.2 a.2).length:Int)) (Option.bind (pW U g ((at' (at' e.2 a.2) b.2).1)) λf=>(if f=true then(ck (0<=(wI .u64 a.2)) (mW b c (I_ .u32 b.1 (AS .u32 (1:Int) (wI .u64 a.2)))))else(mW b c (b.1))))))else(qQ a d (b.1)))
def jJ (U:Nat) (c:cC) (d:Int) (a:eV) (b:fO->Option (Int)):Option (Int):=
 if a.2<(c.2.length:Int)then(bL (kT U c d a b) U (a.1,(0:Int)))else(qP  (a.1))
def oA (U:Nat) (a:cC) (b:Int):Option (Int):=
 Option.bind (iZ U ((a.1,a.2))) λc=>(if(!c)=true then(some (0:Int))else(bL (jJ U a b) U ((0:Int),(0:Int))))
theorem aeJ:aU Tryz.prog 74:=Tryz.call74
theorem II (U:Nat) {j:cC} {g:Int} (m:Value)  (n:Value)  (C:jA) (r:Int) (h:oA U j g=some r):
  aW Tryz.prog 74 #[Value.agg #[m,n],vU (g)] [Sl bR m j.1,S2 bD n C j.2] (λx:Unit=>vU (r)) (λx l=>l) (λ_ l=>l):=by
 refine aW.of Tryz.func74 Z Tryz.ntmps74 Z λc=>?_;refine aT<|aG (aM.box (cs:=[m,n]) Z Z) Z λk=>aB Z<|aL<|aK<|aT<|cG 0 Z<|dN h λD E h=>aG (zBi Uf (Ek U m n C D E) Z (jF [0,1] Z)) Z λG=>aC (jC Z) Z<|aL ?_;refine tP h Z (λ_ h=>?_) λ_ h=>?_
 ·refine aT<|aB Z<|aL<|aR<|aI ?_;cases h;exact mR Z
 refine cD<|aT<|aB Z<|aL<|aK<|dQ (λp=>qP  p=some r) (λp B=>[(5,vU (p))]) (λp B=>[]) ?_ ?_
 ·refine aT<|aB Z<|aL<|aS<|dZ (jJ U j g) (λa q=>[(1,vU (g)),(2,vP k),(5,vU (a.1)),(6,vI (a.2))]) (λa q=>[bS k [m,n] 29]) ((0:Int),(0:Int)) () h SF (a_.refl _) ?_;intro o a q h;refine aK<|aT<|aA Z<|bN Z<|cT 0 Z<|aC (gE Z (aD.fact 1 Z) Z) Z<|cN Z<|aL ?_;refine dY h Z (λh=>?_) λh=>?_
  ·refine cD<|aK<|dQ (λd=>qQ a (bL (jJ U j g) o) d=some r) (λd s=>[(1,vU (g)),(2,vP k),(5,vU (d)),(6,vI (a.2))]) (λd s=>[bS k [m,n] 29]) ?_ ?_
   ·refine aS<|aT<|aB Z<|aL<|aS<|dZ (kT U j g a (bL (jJ U j g) o)) (λb t=>[(1,vU (g)),(2,vP k),(5,vU (b.1)),(6,vI (a.2)),(7,vI (b.2))]) (λb t=>[bS k [m,n] 29]) (a.1,(0:Int)) () h SF (a_.refl _) ?_;intro y b t h;refine aK<|aT<|aA Z<|bN Z<|cT 0 Z<|aA Z<|dB h λi h=>aC (b_ Z Z (aD.fact 1 Z) Z Z i) Z<|aC (bX Z (aD.fact 1 Z) Z Z i) Z<|aC (fV Z (zBj (aD.fact 1 Z) i.1 i.2) Z) Z<|cN Z<|aL ?_;refine dY h Z (λh=>?_) λh=>?_
    ·refine cD<|aK<|dQ (λe=>mW b (bL (kT U j g a (bL (jJ U j g) o)) y) e=some r) (λe u=>[(1,vU (g)),(2,vP k),(5,vU (e)),(6,vI (a.2)),(7,vI (b.2))]) (λe u=>[bS k [m,n] 29]) ?_ ?_
     ·refine aS<|aT<|aA Z<|bN Z<|cT 0 Z<|aA Z<|dB h λf h=>aC (b_ Z Z (aD.fact 1 Z) Z Z f) Z<|aC (bX Z (aD.fact 1 Z) Z Z f) Z<|aA Z<|dB h λv h=>aC (aZ Z Z (zBj (aD.fact 1 Z) f.1 f.2) Z Z v) Z<|aC (dX Z Z Z Z Z) Z<|aC (fD Z (zBj (aD.fact 1 Z) f.1 f.2) Z Z Z jX v) Z<|dN h λz A h=>aG (zBi Ke (zO U  z A) Z .nil) Z λF=>aL ?_;refine tP h Z (λ_ h=>?_) λ_ h=>?_
      ·refine aO<|aA Z<|aA Z<|aC (EX Z Z Z) Z<|dB h λw h=>aC (HQ Z Z w) Z<|aC (PG Z Z) Z<|aB Z<|eM<|jE ?_;exact fE (I_ .u32 b.1 (AS .u32 (1:Int) (wI .u64 a.2))) () h SF Z
      refine cU<|jE ?_;exact fE (b.1) () h SF Z
     intro e u h;unfold mW at h;refine aO<|aA Z<|cB Z<|aB Z<|aL ?_;exact uG (e,(wI .i64 (b.2+(1:Int)))) () h SF Z
    refine mJ<|d_<|d_<|sJ<|jE ?_;exact fE (b.1) () h SF Z
   intro d s h;unfold qQ at h;refine aO<|aA Z<|cB Z<|aB Z<|aL ?_;exact uG (d,(wI .i64 (a.2+(1:Int)))) () h SF Z
  refine eR ?_;exact bZ (a.1) () h SF .nil (aE.refl _ _)
 intro p B h;unfold qP at h;refine aT<|aA Z<|aB Z<|aL<|aR ?_;cases h;exact gF Z
def pT (U:Nat) (a:EM) (c:Int):Option vF:=
 if(!a.2.2.2.2.1)=true then(Option.bind (mH U ((a.1,a.2.1,a.2.2.1,a.2.2.2.1,a.2.2.2.2.1,a.2.2.2.2.2)) c) λd=>(some ((d.1,d.2))))else(Option.bind (mV U ((a.1,a.2.1,a.2.2.1,a.2.2.2.1,a.2.2.2.2.1,a.2.2.2.2.2)) c) λe=>(Option.bind (lM U ((a.1,a.2.1,a.2.2.1,a.2.2.2.1,a.2.2.2.2.1,a.2.2.2.2.2)) ((e.1,e.2))) λb=>(some ((b.1,b.2)))))
theorem ahb:aU Tryz.prog 5:=Tryz.call5
theorem JC (U:Nat) {b:EM} {v:Int} (e:Value)  (f:Value)  (g:Value) (r:GX) (h:pT U b v=some r):
  aW Tryz.prog 5 #[Value.agg #[vI (b.1),e,f,g,vB (b.2.2.2.2.1),vB (b.2.2.2.2.2)],vI (v)] [Sl bR e b.2.1,Sl bR f b.2.2.1,Sl bR g b.2.2.2.1] (λx:Tk=>Value.agg #[x.1,x.2.1]) (λx l=>Ar cK x.1 r.1::Ar eO.raw x.2.1 x.2.2::jM cW x.2.2 r.2::l) (λ_ l=>l):=by
 refine aW.of Tryz.func5 Z Tryz.ntmps5 Z λc=>?_;refine aT<|aG (aM.box (cs:=[vI (b.1),e,f,g,vB (b.2.2.2.2.1),vB (b.2.2.2.2.2)]) Z Z) Z λw=>aG (aM.alloc (cs:=[iO,iO]) Z Z) Z λy=>aL<|aK<|aT<|bN Z<|cT 1 Z<|aC (jC Z) Z<|aL ?_;refine tP h Z (λ_ h=>?_) λ_ h=>?_
 ·refine aT<|cG 1 Z<|aA Z<|dN h λz A h=>aG (zBi aew (EI U e f g z A) Z (jF [0,1,2] Z)) Z λn=>bQ (Know.one ((bB (aD.res 0 Z) dW))) λo=>bQ (Know.one (aD.sl (bF (i:=1) (j:=2) Z Z bV))) λp=>bH 3 (vs:=[n.1,n.2.1]) Z Z (c_ o (c_ p Z)) Z Z Z<|aL<|aR<|aI ?_;cases h;exact iJ (n.1,n.2.1,n.2.2) Z Z (RV.cell 3 Z Z Z Z) (a_.ix [0,1,2] Z Z) aE.nil
 refine cD<|aK ?_;refine JR.start [0,0,0,6,15,31] 4 mixedOrders (by decide +kernel) ?_;refine zBl (by exact rfl) ?_;refine gN 1 Z<|gN 1 Z<|aX Z<|dN h λs t h=>zBk Z Z Z (zBi YF (Cw U e f g s t) Z (jF [0,1,2] Z)) Z (λa=>(oU [([4],[])] Z)) λa=>bK 4 Z Z<|dN h λq u h=>aG (ES (Min:=[Ar cK a.1 s.1,Ar eO.raw a.2.1 a.2.2,jM cW a.2.2 s.2]) (Mr:=[bS y [iO,iO] 29,bS w [vI (b.1),e,f,g,vB (b.2.2.2.2.1),vB (b.2.2.2.2.2)] 24]) YE (Dp U e f g a.1 a.2.1 a.2.2 q u) Z (a_.refl _) (jF [0,1,2] Z) (λ_ _=>rfl)) Z λd=>bQ (Know.one ((bB (aD.res 0 Z) dW))) λk=>bQ (Know.one (aD.sl (bF (i:=1) (j:=2) Z Z bV))) λm=>bH 3 (vs:=[d.1,d.2.1]) Z Z (c_ k (c_ m Z)) Z Z Z<|aL<|aR ?_;cases h;exact iJ (d.1,d.2.1,d.2.2) Z Z (RV.cell 3 Z Z Z Z) (a_.ix [0,1,2] Z Z) aE.nil
def tS  (a:Unit):Option Bool:=
 some (true)
def Aw (c:aY) (d:aY) (a:Int) (b:(Int)->Option Bool):Option Bool:=
 if a<(c.length:Int)then(ck (0<=a∧a<(c.length:Int)) (ck (0<=a∧a<(d.length:Int)) (if(at' c a)≠(at' d a)then(some (false))else(b (wI .i64 (a+(1:Int)))))))else(tS  (()))
def vV (U:Nat) (a:aY) (b:aY):Option Bool:=
 if(a.length:Int)≠(b.length:Int)then(some (false))else(bL (Aw a b) U (0:Int))
theorem aeE:aU Tryz.prog 55:=Tryz.call55
theorem KD (U:Nat) {f:aY} {g:aY} (i:Value)  (j:Value) (r:Bool) (h:vV U f g=some r):
  aW Tryz.prog 55 #[i,j] [Sl bR i f,Sl bR j g] (λx:Unit=>vB (r)) (λx l=>l) (λ_ l=>l):=by
 refine aW.of Tryz.func55 Z Tryz.ntmps55 Z λc=>?_;refine aT<|aB Z<|aL<|aK<|aT<|aA Z<|gW (aD.fact 0 Z) Z<|aA Z<|gW (aD.fact 1 Z) Z<|kH Z<|aL ?_;refine dY h Z (λh=>?_) λh=>?_
 ·refine aT<|aB Z<|aL<|aR<|aI ?_;cases h;exact gF Z
 refine cD<|aK<|dQ (λd=>tS  d=some r) (λd k=>[]) (λd k=>[]) ?_ ?_
 ·refine aT<|aB Z<|aL<|aS<|dZ (Aw f g) (λe m=>[(0,i),(1,j),(5,vI (e))]) (λe m=>[]) (0:Int) () h SF (a_.refl _) ?_;intro n e m h;refine aK<|aT<|aA Z<|aA Z<|gW (aD.fact 0 Z) Z<|cN Z<|aL ?_;refine dY h Z (λh=>?_) λh=>?_
  ·refine cD<|aK<|aS<|aK ?_;refine JR.start [0,0,3,7,0,0,48,112,255] 8 mixedOrders (by decide +kernel) ?_;refine zBl (by exact rfl) ?_;refine aX Z<|aX Z<|dB h λa h=>bG Z .nil (iI 0 Z) (aZ Z Z (aD.fact 0 Z) Z Z a) aP.z<|bG Z .nil (iI 0 Z) (bY Z (aD.fact 0 Z) Z Z Z eD a) aP.z<|aX Z<|aX Z<|dB h λb h=>bG Z .nil (iI 1 Z) (aZ Z Z (aD.fact 0 Z) Z Z b) aP.z<|bG Z .nil (iI 1 Z) (bY Z (aD.fact 0 Z) Z Z Z eD b) aP.z<|bK 8 Z Z<|kH Z<|aL ?_;refine dY h Z (λh=>?_) λh=>?_
   ·refine aT<|aB Z<|aL<|aR<|bE<|aI<|aI<|bE<|aI ?_;cases h;exact gF Z
   refine cU<|jE<|aO<|aA Z<|cB Z<|aB Z<|aL ?_;exact uG (wI .i64 (e+(1:Int))) () h SF Z
  refine eR ?_;exact fE () (()) h SF Z
 intro d k h;unfold tS at h;refine aT<|aB Z<|aL<|aR ?_;cases h;exact gF Z
def Dh (U:Nat) (a:ByteArray) (b:Int) (c:Int) (d:Int):Option ((ByteArray×Int×Int×Int×Int×Int)):=
 some ((a,(1:Int),(0:Int),b,c,d))
theorem aex:aU Tryz.prog 31:=Tryz.call31
theorem ND (U:Nat) {a:ByteArray} {b:Int} {d:Int} {e:Int} (r:(ByteArray×Int×Int×Int×Int×Int)) (h:Dh U a b d e=some r):
  aW Tryz.prog 31 #[vS (a),vI (b),vI (d),vI (e)] [] (λx:Unit=>Value.agg #[vS (r.1),vI (r.2.1),vI (r.2.2.1),vI (r.2.2.2.1),vI (r.2.2.2.2.1),vI (r.2.2.2.2.2)]) (λx l=>l) (λ_ l=>l):=by
 refine aW.of Tryz.func31 Z Tryz.ntmps31 Z λc=>?_;unfold Dh at h;refine aT<|aG (aM.alloc (cs:=vD4) Z Z) Z λf=>aL<|aT<|aA Z<|aA Z<|aA Z<|aA Z ?_;refine aC (Y.bld5 (r:=Value.agg #[vS (a),vI (1:Int),vI (0:Int),vI (b),vI (d),vI (e)]) Z Z Z Z Z (by intro w;simp[Instr.build,Instr.fill,dH,cR,cI,dJ,dK,cS,eI])) Z ?_;refine bH 0 (vs:=[vS (a),vI (1:Int),vI (0:Int),vI (b),vI (d),vI (e)]) Z Z Z Z Z Z<|aL<|aR ?_;cases h;exact iJ () Z Z (RV.cell 0 Z Z Z Z) .nil aE.nil
def Fo (U:Nat)  : Option ((List (ByteArray×Int×Int×Int×Int×Int))):=
 Option.bind (Dh U (ByteArray.mk #[99]) (0:Int) (1:Int) (0:Int)) λa=>(some ([(a.1,a.2.1,a.2.2.1,a.2.2.2.1,a.2.2.2.2.1,a.2.2.2.2.2)]))
theorem ahd:aU Tryz.prog 9:=Tryz.call9
theorem QX (U:Nat)  (r:(List (ByteArray×Int×Int×Int×Int×Int))) (h:Fo U  = some r):
  aW Tryz.prog 9 #[] [] (λx:Value=>x) (λx l=>Ar wF x r::l) (λ_ l=>l):=by
 refine aW.of Tryz.func9 Z Tryz.ntmps9 Z λc=>?_;refine aT<|aB Z<|aL<|aT<|dN h λa d h=>aG (zBi aex (ND U  a d) Z .nil) Z λf=>aG (cE (e:=wF) ([((a.1,a.2.1,a.2.2.1,a.2.2.2.1,a.2.2.2.2.1,a.2.2.2.2.2))]) [(0,Value.agg #[vS (a.1),vI (a.2.1),vI (a.2.2.1),vI (a.2.2.2.1),vI (a.2.2.2.2.1),vI (a.2.2.2.2.2)])] Z Z Z Z (Zv (vS (a.1)) (vI (a.2.1)) (vI (a.2.2.1)) (vI (a.2.2.2.1)) (vI (a.2.2.2.2.1)) (vI (a.2.2.2.2.2))) Z Z Z) Z λb=>aB Z<|aL<|aR ?_;cases h;exact iJ (b) Z Z (RV.tmp Z) (a_.refl _) aE.nil
def uN (U:Nat) (a:cC):Option (Int):=
 ck (0<=(a.1.length:Int)) (some (wI .u32 ((AS .u32 (1:Int) (a.1.length:Int)) - (1:Int))))
theorem YR:aU Tryz.prog 90:=Tryz.call90
theorem Lc (U:Nat) {a:cC} (b:Value)  (d:Value)  (f:jA) (r:Int) (h:uN U a=some r):
  aW Tryz.prog 90 #[Value.agg #[b,d]] [Sl bR b a.1,S2 bD d f a.2] (λx:Unit=>vU (r)) (λx l=>l) (λ_ l=>l):=by
 refine aW.of Tryz.func90 Z Tryz.ntmps90 Z λc=>?_;refine aT<|aG (aM.box (cs:=[b,d]) Z Z) Z λg=>aB Z<|aL<|aT<|bN Z<|cT 0 Z<|gW (aD.fact 0 Z) Z<|dB h λe h=>aC (HQ Z Z e) Z<|aC (mM Z Z) Z<|aB Z<|aL<|aR ?_;cases h;exact mR Z
end Go.Proofs.YtahgemjmgopleaaGreatDoor