/- Models and proofs. Conditions: none. -/
import Derived.Test.YtmdlcmbplnhdnaaGreatDoorZRRc5
import Derived.Test.YtmdlcmbplnhdnaaGreatDoorZRRc4
import Derived.Test.YtmdlcmbplnhdnaaGreatDoorZRRc2
set_option linter.unusedVariables false
set_option linter.unusedSimpArgs false
set_option maxHeartbeats 4000000
set_option maxRecDepth 20000
namespace Go.Gx
open Go Go.Sx Go.RowKit
mutual
def GY (k:Nat):GV->GV
 | .ptr h o=> .ptr (k+h) o
 | .sl h o l s=> .sl (k+h) o l s
 | .map h=> .map (k+h)
 | .fn f a b=> .fn f (VX k a) (VX k b)
 | .agg cs=> .agg (VX k cs)
 | .tup vs=> .tup (VX k vs)
 | .int a b=> .int a b
 | .bool b=> .bool b
 | .str a b=> .str a b
 | .pnil=> .pnil
 | .snil=> .snil
 | .fnil=> .fnil
 | .inil=> .inil
 | .un=> .un
 | .bad=> .bad
 | .opn h=> .opn (k+h)
def VX (k:Nat):List GV->List GV
 | []=>[]
 |v::r=>GY k v::VX k r
end
theorem NS (k:Nat):∀(l:List GV) (i:Nat),(VX k l)[i]? = (l[i]?).map (GY k)
 | [],i=>rfl
 |v::r,0=>rfl
 |v::r,i+1=>by simpa [VX]using NS k r i
theorem EQ (k:Nat):∀(l:List GV),(VX k l).length=l.length
 | []=>rfl
 |v::r=>by simp[VX,EQ k r]
def ZF (k:Nat):GO->GO
 | .cells cs=> .cells (VX k cs)
 | .mp es=> .mp (es.map λe=>(GY k e.1,GY k e.2))
def Bc (k:Nat) (l:LC):LC:={l with o:=ZF k l.o}
theorem Rl.shift {y e:dX} {k:Nat} (c:∀h l,y h=some l->e (k+h)=some (Bc k l)) {g:GV} {v:Value} (h:Rl y g v):Rl e (GY k g) v:=by
 have d:∀{u:List GV} {j:fR},(∀(i:Nat) g v,u[i]? = some g->j[i]? = some v->Rl e (GY k g) v)->∀(i:Nat) g v,(VX k u)[i]? = some g->j[i]? = some v->Rl e g v:=by
  intro u j D i g v x E;rw[NS]at x;obtain⟨z,A,rfl⟩:=Option.map_eq_some_iff.1 x;exact D i z v A E
 induction h with
 |int a n=>simp only[GY];exact .int a n
 |bool b=>simp only[GY];exact .bool b
 |str s=>simp only[GY];exact .str s
 |ptr t h=>simp only[GY];exact .ptr (l:=Bc k _) t (c _ _ h)
 |pnil=>simp only[GY];exact .pnil
 |sl h C B=>simp only[GY];exact .sl (l:=Bc k _) (c _ _ h) C B
 |snil=>simp only[GY];exact .snil
 |map h=>simp only[GY];exact .map (l:=Bc k _) (c _ _ h)
 |fn f m w o G q r=>simp only[GY];exact .fn f (by rw[EQ];exact m) (d q) (by rw[EQ];exact o) (d r)
 |fnil=>simp only[GY];exact .fnil
 |inil=>simp only[GY];exact .inil
 |agg m w o p=>simp only[GY];exact .agg (by rw[EQ];exact m) (d p) o
 |tup m w p=>simp only[GY];exact .tup (by rw[EQ];exact m) (d p)
 |un=>simp only[GY];exact .un
 |bad v=>simp only[GY];exact .bad v
 |opn v h F=>simp only[GY];exact .opn (l:=Bc k _) v (c _ _ h) F
abbrev OL:=List (Nat×Nat×GO)
def VV:OL->Nat->Option (Nat×GO)
 | [],_=>none
 |x::r,h=>if h=x.1 then some x.2 else VV r h
theorem NE {b:OL} {h:Nat} {p:Nat×GO} (a:VV b h=some p):(h,p)∈b:=by
 induction b with
 |nil=>cases a
 |cons x r c=>
  simp only[VV]at a;split at a
  ·rename_i e;cases a;subst e;exact List.mem_cons_self
  ·exact List.mem_cons_of_mem _ (c a)
noncomputable def PX (k:Nat) (t:Tr (Nat×GO)):OL->Tr (Nat×GO)
 | []=>t
 |x::r=>(PX k t r).set (some (k+x.2.1,ZF k x.2.2)) (k+x.1)
noncomputable def abN:OL->Tr (Nat×GO)
 | []=> .lf
 |x::r=>(abN r).set (some x.2) x.1
theorem Ed:∀(a:OL) (h:Nat),(abN a).get h=VV a h
 | [],h=>rfl
 |x::r,h=>by
  show((abN r).set (some x.2) x.1).get h=_;rw[sL];simp only[VV];split
  ·rfl
  ·exact Ed r h
theorem KG (k:Nat) (t:Tr (Nat×GO)):∀(b:OL) (h:Nat),(PX k t b).get h=if k<=h then(match VV b (h - k)with|some p=>some (k+p.1,ZF k p.2)|none=>t.get h)else t.get h
 | [],h=>by simp[PX,VV]
 | x :: r, h => by
  show((PX k t r).set (some (k+x.2.1,ZF k x.2.2)) (k+x.1)).get h=_;rw[sL,KG k t r h];by_cases e:h=k+x.1
  ·subst e;rw[if_pos Z,if_pos (by omega)];simp[VV]
  ·rw[if_neg e];by_cases a:k<=h
   ·rw[if_pos a,if_pos a];simp only[VV];rw[if_neg (show¬h - k=x.1 by omega)]
   ·rw[if_neg a,if_neg a]
noncomputable def Jf (n:Nat) (a:OL):GH:=⟨n,abN a⟩
noncomputable def GH.load (H:GH) (n:Nat) (a:OL):GH:=⟨H.n+n,PX H.n H.t a⟩
section
variable {gs:zN} {w0:eV gs} {w w':World} {ρ ρ2:dX} {H:GH} {n:Nat} {os:OL}
theorem gY {H:GH} {h:Nat} {o:GO}:H.get h=some o↔∃v,H.t.get h=some (v,o):=by
 unfold GH.get;cases c:H.t.get h with
 |none=>simp[ob]
 |some p=>obtain⟨a,b⟩:=p;simp[ob]
theorem sI {H:GH} {h v:Nat}:H.ver h=some v↔∃o,H.t.get h=some (v,o):=by
 unfold GH.ver;cases c:H.t.get h with
 |none=>simp[ob]
 |some p=>obtain⟨a,b⟩:=p;simp[ob]
theorem fQ.sub {d:GH} (R:fQ w0 ρ H w) (z:d.n=H.n) (m:∀h p,d.t.get h=some p->H.t.get h=some p):fQ w0 ρ d w:=by
 have g:∀h o,d.get h=some o->H.get h=some o:=λh o i=>by
  obtain⟨v,j⟩:=gY.1 i;exact gY.2 ⟨v,m _ _ j⟩
 refine⟨R.ext,λh o i=>R.live h o (g h o i),λh q o y l u e f=>R.inj h q o y l u (g _ _ e) (g _ _ f),λh r=>R.fresh h (by omega),λh r=>R.dense h (by omega),λh v l j s=> ?_,R.env⟩
 obtain⟨o,k⟩:=sI.1 j;obtain⟨x,a,b,c⟩:=R.vers h v l (sI.2 ⟨o,m _ _ k⟩) s;refine⟨x,a,b,?_⟩
 have e:=gY.2 ⟨v,k⟩;have f:=g _ _ e;rw[c]at f;cases f;exact e
theorem yE.shift {l:LC} {o:GO} {f:dX} {k:Nat} (d:∀h l,ρ2 h=some l->f (k+h)=some (Bc k l)) (h:yE ρ2 w l o):yE f w (Bc k l) (ZF k o):=by
 cases o with
 |cells z=>
  obtain⟨j,T,r,s,t,y⟩:=h;refine⟨j,T,r,s,by rw[EQ];exact t,λi g e=> ?_⟩
  rw[NS]at e;obtain⟨p,q,rfl⟩:=Option.map_eq_some_iff.1 e;obtain⟨v,a,b,c⟩:=y i p q;exact⟨v,a,b.shift d,c⟩
 |mp A=>
  obtain⟨x,u,r,s,t⟩:=h;refine⟨x,u,r,by simpa [ZF]using s,λi g e=> ?_⟩
  rw[List.getElem?_map]at e;obtain⟨p,q,rfl⟩:=Option.map_eq_some_iff.1 e;obtain⟨m,a,b,c⟩:=t i p q;exact⟨m,a,b.shift d,c.shift d⟩
theorem fQ.join {Y:zN} {hb:Ic Y w λ_=>False} (R:fQ w0 ρ H w) (M:fQ (eV.of w hb) ρ2 (Jf n os) w'):
  ∃s:dX,ρ.le s∧fQ w0 s (H.load n os) w'∧∀g v,Rl ρ2 g v->Rl s (GY H.n g) v:=by
 let s:dX:=λh=>if h<H.n then ρ h else(ρ2 (h - H.n)).map (Bc H.n);have G:ρ.le s:=λh l f=>by
  have ac:h<H.n:=by
   rcases Nat.lt_or_ge h H.n with q|q
   ·exact q
   ·rw[R.fresh h q]at f;cases f
  show(if h<H.n then ρ h else _)=_;rw[if_pos ac];exact f
 have K:∀h l,ρ2 h=some l->s (H.n+h)=some (Bc H.n l):=λh l f=>by
  show(if H.n+h<H.n then _ else _)=_;rw[if_neg (by omega),show H.n+h - H.n=h by omega,f];rfl
 have k:∀h,h<H.n->s h=ρ h:=λh u=>by show(if h<H.n then ρ h else _)=_;rw[if_pos u]
 have d:∀h,H.n<=h->s h=(ρ2 (h - H.n)).map (Bc H.n):=λh u=>by show(if h<H.n then ρ h else _)=_;rw[if_neg (by omega)]
 have J:∀h,H.n<=h->H.t.get h=none:=λh u=>by
  cases y:H.t.get h with
  |none=>rfl
  |some p=>exact absurd (R.lt (gY.2 ⟨p.1,y⟩)) (by omega)
 have X:∀h,h<H.n->(H.load n os).t.get h=H.t.get h:=λh u=>by
  show(PX H.n H.t os).get h=_;rw[KG,if_neg (by omega)]
 have gh:∀h p,H.n<=h->(H.load n os).t.get h=some p->∃x,(Jf n os).t.get (h - H.n)=some x∧p=(H.n+x.1,ZF H.n x.2):=λh p u hp=>by
  have A:(PX H.n H.t os).get h=some p:=hp;rw[KG,if_pos u,J h u]at A;cases hk:VV os (h - H.n)with
  |none=>rw[hk]at A;cases A
  |some x=>rw[hk]at A;cases A;exact⟨x,(Ed os _).trans hk,rfl⟩
 have W:MQ w w':=M.ext.ext;have L:∀l:LC,(eV.of w hb).mine l.b->w.heap.size<=l.b:=λl h=>by
  rcases h with h|h
  ·exact h
  ·exact h.elim
 have r:∀h o,h<H.n->(H.load n os).get h=some o->∃l,ρ h=some l∧w0.mine l.b∧yE ρ w l o∧H.get h=some o:=λh o u y=>by
  obtain⟨v,N⟩:=gY.1 y;rw[X h u]at N;have z:=gY.2 ⟨v,N⟩;obtain⟨l,a,b,c⟩:=R.live h o z;exact⟨l,a,b,c,z⟩
 have m:∀h o,H.n<=h->(H.load n os).get h=some o->∃l O,ρ2 (h - H.n)=some l∧w.heap.size<=l.b∧yE ρ2 w' l O∧o=ZF H.n O∧(Jf n os).get (h - H.n)=some O:=λh o u y=>by
  obtain⟨v,N⟩:=gY.1 y;obtain⟨x,E,e⟩:=gh h _ u N;cases e;have z:(Jf n os).get (h - H.n)=some x.2:=gY.2 ⟨x.1,E⟩;obtain⟨l,a,b,c⟩:=M.live _ _ z;exact⟨l,x.2,a,L l b,c,rfl,z⟩
 refine⟨s,G,⟨R.ext.trans W,λh o y=> ?_,λh B o U l l' V E f j F=> ?_,λh u=> ?_,λh u=> ?_,λh v l N f=> ?_,λi v e=>let ⟨l,a,b⟩:=R.env i v e;⟨l,G _ _ a,b⟩⟩,λg v y=>y.shift K⟩
 ·rcases Nat.lt_or_ge h H.n with q|q
  ·obtain⟨l,a,b,c,_⟩:=r h o q y;exact⟨l,by rw[k h q];exact a,b,c.move G (W.block _ c.lt)⟩
  ·obtain⟨l,O,a,b,c,rfl,_⟩:=m h o q y;exact⟨Bc H.n l,by rw[d h q,a];rfl,.inl (Nat.le_trans R.ext.size b),c.shift K⟩
 ·rcases Nat.lt_or_ge h H.n with q|q<;>rcases Nat.lt_or_ge B H.n with I|I
  ·obtain⟨l1,C,_,_,P⟩:=r h o q V;obtain⟨T,D,_,_,Q⟩:=r B U I E;rw[k h q,C]at f;rw[k B I,D]at j;cases f;cases j;exact R.inj h B o U _ _ P Q C D F
  ·obtain⟨l1,C,_,c1,P⟩:=r h o q V;obtain⟨T,O,D,b2,_,rfl,Q⟩:=m B U I E;rw[k h q,C]at f;rw[d B I,D]at j;cases f;cases j;have:=c1.lt;simp only[Bc]at F;omega
  ·obtain⟨l1,o1,C,b1,_,rfl,P⟩:=m h o q V;obtain⟨T,D,_,c2,Q⟩:=r B U I E;rw[d h q,C]at f;rw[k B I,D]at j;cases f;cases j;have:=c2.lt;simp only[Bc]at F;omega
  ·obtain⟨l1,o1,C,b1,_,rfl,P⟩:=m h o q V;obtain⟨T,O,D,b2,_,rfl,Q⟩:=m B U I E;rw[d h q,C]at f;rw[d B I,D]at j;cases f;cases j;have:=M.inj _ _ _ _ _ _ P Q C D F;omega
 ·have aa:H.n+n<=h:=u;rw[d h (by omega),M.fresh (h - H.n) (by show n<=_;omega)];rfl
 ·have aa:h<H.n+n:=u;rcases Nat.lt_or_ge h H.n with q|q
  ·obtain⟨l,f⟩:=R.dense h q;exact⟨l,by rw[k h q];exact f⟩
  ·obtain⟨l,f⟩:=M.dense (h - H.n) (by show _<n;omega);exact⟨Bc H.n l,by rw[d h q,f];rfl⟩
 ·obtain⟨o,S⟩:=sI.1 N;rcases Nat.lt_or_ge h H.n with q|q
  ·rw[X h q]at S;rw[k h q]at f;obtain⟨lv,a,b,c⟩:=R.vers h v l (sI.2 ⟨o,S⟩) f;have y:=gY.2 ⟨v,S⟩;obtain⟨l',j,_,ck⟩:=R.live h o y;rw[f]at j;cases j;refine⟨lv,G _ _ a,by rw[W.block _ ck.lt];exact b,?_⟩
   obtain⟨v2,ad⟩:=gY.1 c;exact gY.2 ⟨v2,by rw[X h q];exact ad⟩
  ·obtain⟨x,E,e⟩:=gh h _ q S;cases e;rw[d h q]at f;obtain⟨T,ab,rfl⟩:=Option.map_eq_some_iff.1 f;obtain⟨lv,a,b,c⟩:=M.vers (h - H.n) x.1 T (sI.2 ⟨x.2,E⟩) ab;refine⟨Bc H.n lv,K _ _ a,b,?_⟩
   have h3:(Jf n os).get (h - H.n)=some x.2:=gY.2 ⟨x.1,E⟩;rw[c]at h3;have h4:=Option.some.inj h3;exact gY.2 ⟨_,by rw[S,<-h4];rfl⟩
end
theorem Xy {a b:Nat×Nat} (h:QU a b=true):a=b:=by
 obtain⟨f,d⟩:=a;obtain⟨g,e⟩:=b;unfold QU at h;cases c:Nat.beq d e with
 |false=>simp[c]at h
 |true=>
  simp only[c,cond_true]at h;rw[Nat.eq_of_beq_eq_true h,Nat.eq_of_beq_eq_true c]
theorem SG {c:dX} {n l:Nat} {x:ByteArray} (a:n=lX (bJ x)) (b:l=(bJ x).length):Rl c (.str n l) (.string x):=by
 rw[a,b];exact .str x
def isS (a:List GV) (p:Nat×Nat):Bool:=List.casesOn (motive:=λ_=>Bool) a false λu r=>List.casesOn (motive:=λ_=>Bool) r (Option.casesOn (motive:=λ_=>Bool) (GV.asStr u) false λs=>QU s p) λ_ _=>false
theorem Yc {b:List GV} {p:Nat×Nat} (h:isS b p=true):b=[.str p.1 p.2]:=by
 cases b with
 |nil=>cases h
 | cons u r =>
  cases r with
  |cons _ _=>cases h
  | nil =>
   cases a:GV.asStr u with
   |none=>simp[isS,a]at h
   |some s=>
    have:QU s p=true:=by simpa [isS,a]using h
    rw[pW a,Xy this]
noncomputable section
def YI (H:GH) (a:List Nat):Option OL:=List.rec (motive:=λ_=>Option OL) (some []) (λh _ b=>ob (H.t.get h) λp=>ob b λr=>some ((h,p.1,p.2)::r)) a
theorem HO {H:GH}:∀{c:List Nat} {b:OL},YI H c=some b->∀x∈b,H.t.get x.1=some x.2
 | [],b,h,x,a=>by cases h;cases a
 |h0::c,b,h,x,a=>by
  obtain⟨p,d,h⟩:=aD.1 (show ob (H.t.get h0) (λp=>ob (YI H c) λr=>some ((h0,p.1,p.2)::r))=some b from h);obtain⟨r,e,h⟩:=aD.1 h;cases h;rcases List.mem_cons.1 a with rfl|a
  ·exact d
  ·exact HO e x a
def TY (T:Gl) (G:GP) (a f:Nat) (d:List GV) (b:List Nat):Option (GV×Nat×OL):=ob (JN T G a f d H0) λr=>ob (YI r.2 b) λc=>some (r.1,r.2.n,c)
def shK {R:Type} (k:Nat) (v:GV) (f:GV->R):R:=GV.casesOn (motive_1:=λ_=>R) v (λa b=>f (.int a b)) (λb=>f (.bool b)) (λa b=>f (.str a b)) (λh o=>sn (Nat.add k h) λh=>f (.ptr h o)) (f .pnil) (λh o l s=>sn (Nat.add k h) λh=>f (.sl h o l s)) (f .snil) (λh=>sn (Nat.add k h) λh=>f (.map h)) (λa b c=>f (GY k (.fn a b c))) (f .fnil) (f .inil) (λd=>f (GY k (.agg d))) (λe=>f (GY k (.tup e))) (f .un) (f .bad) (λh=>sn (Nat.add k h) λh=>f (.opn h))
theorem YX {R:Type} (k:Nat) (v:GV) (f:GV->R):shK k v f=f (GY k v):=by
 cases v<;>simp[shK,wK,GY]
def aeS {R:Type} (k:Nat) (l:List GV):(List GV->R)->R:=List.rec (motive:=λ_=>(List GV->R)->R) (λf=>f []) (λx _ a f=>shK k x λy=>a λr=>f (y::r)) l
theorem Up {R:Type} (k:Nat):∀(l:List GV) (f:List GV->R),aeS k l f=f (VX k l)
 | [],f=>rfl
 |x::l,f=>by
  show shK k x (λy=>aeS k l λr=>f (y::r))=_;rw[YX,Up k l];rfl
def aeT {R:Type} (k:Nat) (o:GO) (f:GO->R):R:=GO.casesOn (motive:=λ_=>R) o (λa=>aeS k a λa=>f (.cells a)) (λb=>f (ZF k (.mp b)))
theorem abT {R:Type} (k:Nat) (o:GO) (f:GO->R):aeT k o f=f (ZF k o):=by
 cases o with
 |cells a=>exact Up k a _
 |mp b=>rfl
def aeG {R:Type} (k:Nat) (t:Tr (Nat×GO)) (b:OL):(Tr (Nat×GO)->R)->R:=List.rec (motive:=λ_=>(Tr (Nat×GO)->R)->R) (λf=>f t) (λx _ a f=>a λt=>sn (Nat.add k x.2.1) λv=>sn (Nat.add k x.1) λh=>aeT k x.2.2 λo=>t.setK (some (v,o)) h f) b
theorem Ug {R:Type} (k:Nat) (t:Tr (Nat×GO)):∀(a:OL) (f:Tr (Nat×GO)->R),aeG k t a f=f (PX k t a)
 | [],f=>rfl
 |x::a,f=>by
  show aeG k t a (λt=>sn (Nat.add k x.2.1) λv=>sn (Nat.add k x.1) λh=>aeT k x.2.2 λo=>t.setK (some (v,o)) h f)=_;rw[Ug k t a];simp only[wK,abT,Cr];rfl
def PG (g:GV) (n:Nat) (a:OL) (H:GH):Option (GV×GH):=sn H.n λk=>shK k g λg=>aeG k H.t a λt=>sn (Nat.add k n) λm=>some (g,⟨m,t⟩)
theorem Yt (g:GV) (n:Nat) (a:OL) (H:GH):PG g n a H=some (GY H.n g,H.load n a):=by
 unfold PG;simp only[wK,YX,Ug];rfl
theorem TZ {P:Program} {T:Gl} {G:GP} {gs gs2:zN} (j:gs2.obs=gs.obs) (d:gs2.env=[]) (M:JF T G.tab) (L:∀m:eV gs2,UF P G T.fns m) {a f n:Nat} {y:List GV} {z:List Value} {O:List Nat} {g:GV} {c:OL} (i:TY T G a f y O=some (g,n,c)) (C:aV P f)
  {m:eV gs} {w:World} {F:dX} {H o:GH} {B:GV} (Q:pE (λ_=>none) y z) (h:PG g n c H=some (B,o)) (R:fQ m F H w):kI P m F f z w B o:=by
 rw[Yt]at h;cases h;obtain⟨r,D,i⟩:=aD.1 (show ob (JN T G a f y H0) _=some (g,n,c)from i);obtain⟨S,s,i⟩:=aD.1 i;cases i;rw[Gt M]at D;have b:Ic gs2 w λ_=>False:=λp t=>⟨(R.glo p (j▸t)).1,id⟩
 rcases Gs L (H':=r.2) (g:=r.1) D (fQ.start (eV.of w b) d) Q with⟨v,E,l,k,_⟩|⟨_,N⟩
 ·have:=C z.toArray w;rw[show(eV.of w b).w=w from rfl,this]at k;cases k
 ·refine .inr ⟨C _ w,N.mono ?_⟩;rintro e E ⟨v,A,rfl,_,I,u⟩;have J:fQ (eV.of w b) A (Jf r.2.n c) E:=I.sub Z λh p t=>by
   have:VV c h=some p:=(Ed c h).symm.trans t;exact HO s _ (NE this)
  obtain⟨l,q,K,x⟩:=R.join J;exact⟨v,l,rfl,q,K,x _ _ u⟩
theorem Vz {P:Program} {T:Gl} {G:GP} {gs:zN} (y:JF T G.tab) (x:∀H:eV gs,UF P G T.fns H) {a f n:Nat} {m:List GV} {o:List Value} {D:List Nat} {g:GV} {j:OL} (d:TY T G a f m D=some (g,n,j)) (z:aV P f)
  (E:pE (λ_=>none) m o) (B:gs.env=[]) (b:eV gs):Calls P f o.toArray b.w λe q=>∃v c,e = .returned v∧fQ b c (Jf n j) q∧Rl c g v:=by
 obtain⟨r,t,d⟩:=aD.1 (show ob (JN T G a f m H0) _=some (g,n,j)from d);obtain⟨F,k,d⟩:=aD.1 d;cases d;rw[Gt y]at t;rcases Gs x (H':=r.2) (g:=r.1) t (fQ.start b B) E with⟨v,q,c,i,_⟩|⟨_,A⟩
 ·have:=z o.toArray b.w;rw[this]at i;cases i
 ·refine A.mono ?_;rintro e q ⟨v,s,rfl,_,u,l⟩;exact⟨v,s,rfl,u.sub Z λh p C=>by
   have:VV j h=some p:=(Ed j h).symm.trans C;exact HO k _ (NE this),l⟩
end
theorem Sq {P:Program} {gs:Nat->zN} {L:List bA} (D:∀w S,(∀h∈L,h.p w S)->∃T,Ic (gs T) w λ_=>False) {f n:Nat} {z:List Value} {g:GV} {y:OL}
  (h:∀T (b:eV (gs T)),Calls P f z.toArray b.w λe s=>∃v c,e = .returned v∧fQ b c (Jf n y) s∧Rl c g v) {A:Type} {o:A->Value} {LO:A->List bA}
  (d:∀T (b:eV (gs T)) (B:dX) (w:World) (V:Value),(∀k,b.mine k->b.w.heap.size<=k)->fQ b B (Jf n y) w->Rl B g V->∃x:A,V=o x∧∀q∈LO x,q.p w (λk=>b.w.heap.size<=k)):
  aX P f z.toArray L o (λ_ l=>l) (λx l=>LO x++l):=by
 intro t C H;obtain⟨T,u⟩:=D t C H;refine(h T (.of t u)).mono ?_;rintro e s ⟨v,c,rfl,R,G⟩;obtain⟨x,rfl,F⟩:=d T (.of t u) c s v (λk r=>r.elim id False.elim) R G;refine⟨x,rfl,R.ext,λ_ _=>False,⟨λi m E=>by simp at E,λi k h=>h.elim,λi j k h=>h.elim⟩,λq a=> ?_⟩
 have a:q∈LO x++[]:=a;rw[List.append_nil]at a;exact bA.wide (F q a) (λk r=>⟨.inr (.inl r),λi h=>h.elim⟩)
noncomputable def IA (s:ByteArray):Nat×Nat:=(lX (bJ s),(bJ s).length)
theorem Pr {a b:ByteArray} (h:IA a=IA b):a=b:=by
 have c:=Xx a b;unfold IA at h;rw[h]at c;have e:QU (lX (bJ b),(bJ b).length) (lX (bJ b),(bJ b).length)=true:=by simp[QU]
 rw[e]at c;have d:a.toList=b.toList:=eq_of_beq c.symm;rw[Lib.toList_data,Lib.toList_data]at d;obtain⟨⟨x⟩⟩:=a;obtain⟨⟨y⟩⟩:=b;simp only at d;rw[d]
noncomputable def ad_ (a:List GV):Option (Nat×Nat):=List.casesOn (motive:=λ_=>Option (Nat×Nat)) a none λc r=>List.casesOn (motive:=λ_=>Option (Nat×Nat)) r c.asStr λ_ _=>none
abbrev aeK:eH ByteArray:=⟨1,Nat.one_pos,λ_ _ a x=>a=[.string x],λh=>by simp[h],λh _=>h⟩
theorem iG.str {S:Nat->Prop} {g:dX} {w:World}:iG S g w ad_ aeK IA:=λgs f y a h _=>by
 cases gs with
 |nil=>cases h
 |cons c gs=>
 cases gs with
 |cons _ _=>cases h
 |nil=>
 have h:c.asStr=some y:=h;obtain⟨v,f,rfl,b,a⟩:=a.of_cons;rw[a.of_nil];rw[pW h]at b;obtain⟨x,rfl,d,e⟩:=b.str_inv;exact⟨x,by unfold IA;rw[<-d,<-e],rfl⟩
theorem abX {c:dX} {V:Value} {n l:Nat} {s:ByteArray} (h:Rl c (.str n l) V) (e:IA s=(n,l)):V = .string s:=by
 obtain⟨x,rfl,a,b⟩:=h.str_inv;have:IA x=IA s:=by rw[e];unfold IA;rw[<-a,<-b]
 rw[Pr this]
theorem Ko {c:Type}:∀a b:c,id a=id b->a=b:=λ_ _ h=>h
theorem DZ {c d e i:Type} {f:c->e} {g:d->i} (j:∀a b,f a=f b->a=b) (k:∀a b,g a=g b->a=b):∀a b:c×d,(λz:c×d=>(f z.1,g z.2)) a=(λz:c×d=>(f z.1,g z.2)) b->a=b:=λa b h=>by
 obtain⟨l,m⟩:=a;obtain⟨n,o⟩:=b;simp only[Prod.mk.injEq]at h;rw[j _ _ h.1,k _ _ h.2]
theorem Ks {g i:Type} {f:g->i} (e:∀a b,f a=f b->a=b):∀{c d:List g},c.map f=d.map f->c=d
 | [],[],_=>rfl
 | [],_::_,h=>by simp at h
 |_::_,[],h=>by simp at h
 |a::c,b::d,h=>by
  simp only[List.map_cons,List.cons.injEq]at h;rw[e _ _ h.1,Ks e h.2]
end Go.Gx
section
set_option maxRecDepth 100000
namespace Go.Gx
open Go Go.Sx Go.Proofs Go.Proofs.YtmdlcmbplnhdnaaGreatDoor
def Ag (l:qL):List GV:=l.map λn=> .int .i64 (.ofNat n)
abbrev Vq:Nat:=62612022078668281795505554093363622559854195865949253215105900396045672359969877880166549174032343132993734957765569202214538907514566311350427701009544032694847337705793280154083690688451269616688782133795410379376928705130345296445151552924450334836917827234573469831105668184247309683323748037249326305257450566500613104582596739355858495108587194514699348039550352061107652063950585699432193800786308390540153052463342825471615451497403378237530695269756800903089344746135921082798862585170912282432061314226997690214573863871773160495090950365393003392302336199511227963345777762340303723847551010267882950244475187531638497589816884840746003832656122559568072415127281877587919955134951848720898362784721630179183632514071187737718801766045181382178059597531935953865739058317213402067112106178269539818406468794623567714368406699984352401615611648009540554670638379077003046691601651659503488023036016650041344236444492625067110609540290467946795853434537583557082408411183186533670519462632865144031819183310381452310956185194634675703732849182713820334837695243446565596654286740386031565011357996399800921820918955437335624617843094112596863701508946442457135114386851122925397296113071978999231011209672540734656076492347048890983156526043032785285927167596865683405763291449118335047510792439178363711784660496025932951555546329846668545661249500619781993860494368395467151808107769959479474456951167188694307489519361853029722953071634727739222067984252267479508130870821814111526873691367656719627636282162632229619012164283959600299915921951610829461135327475232013270964287406921117221047932843602716792612622967992944
def mu0:List GV:=[.str Vq 679]
def mg0:GV:=(.tup [(.sl 2567 0 301 4),(.int .i64 (.ofNat 0)),(.int .i64 (.ofNat 0))])
def mo0:OL:=[(2567,2567,.cells (Ag [1,0,7,0,1,8,13,0,3,13,14,0,1,15,18,0,1,19,20,0,3,21,22,0,2,23,24,0,3,25,27,0,1,28,29,0,3,29,30,0,1,31,34,0,1,35,36,0,3,37,38,0,1,39,43,0,3,43,44,0,1,45,48,0,1,49,50,0,3,51,52,0,1,53,57,0,3,57,58,0,1,59,62,0,1,63,64,0,3,65,66,0,1,67,71,0,3,71,72,0,1,73,76,0,1,77,78,0,3,79,80,0,2,81,82,0,3,83,85,0,2,86,87,3,3,87,88,0,1,89,92,0,1,93,94,0,3,95,96,0,1,97,101,0,3,101,102,0,1,103,107,0,1,108,111,0,3,111,112,0,1,113,117,0,3,118,120,0,3,121,122,0,1,122,123,0,3,124,126,0,2,127,128,0,3,129,131,0,1,132,133,0,3,134,136,0,1,137,141,0,3,141,142,0,3,143,145,0,1,146,147,0,3,148,150,0,2,151,152,0,3,152,153,0,1,154,155,0,3,156,158,0,1,159,163,0,3,163,164,0,1,165,169,0,1,170,173,0,3,173,174,0,3,175,176,0,1,176,180,0,3,181,183,0,3,184,185,0,1,185,186,0,3,187,189,0,3,190,191,0,1,191,194,0,3,194,195,0,1,195,196,0,3,196,197,0,1,197,198,0,3,198,199,0,3,200,201,0,1,202,203,0,3,204,205,0,1,206,209,0,3,209,210,0,1,210,211,0,3,211,212,0,1,212,213,0,3,213,214,0,3,215,216,0,2,217,218,1,3,219,220,0,1,221,222,0,3,222,223,0,3,224,226,0,1,227,228,0,3,229,231,0,1,232,237,0,3,237,238,0,1,238,239,0,3,239,240,0,1,240,241,0,3,242,244,0,1,245,248,0,3,248,249,0,1,249,250,0,3,250,251,0,1,251,252,0,3,252,253,0,3,253,254,0,3,254,255,0,3,258,260,0,1,261,262,0,3,263,265,0,3,266,267,0,1,267,270,0,3,270,271,0,1,271,272,0,3,272,273,0,1,273,274,0,3,274,275,0,3,276,277,0,1,278,279,0,3,280,281,0,1,282,285,0,3,285,286,0,1,286,287,0,3,287,288,0,1,288,289,0,3,289,290,0,3,291,292,0,2,293,294,1,3,295,296,0,1,297,298,0,3,298,299,0,3,299,300,0,1,301,302,0,3,303,305,0,1,306,311,0,3,311,312,0,1,312,313,0,3,313,314,0,1,314,315,0,3,316,318,0,1,319,322,0,3,322,323,0,1,323,324,0,3,324,325,0,1,325,326,0,3,326,327,0,3,327,328,0,3,328,329,0,1,330,334,0,1,335,340,0,3,340,341,0,1,342,346,0,3,347,349,0,3,350,351,0,1,351,352,0,3,353,355,0,1,356,357,0,3,358,360,0,1,361,362,0,3,363,365,0,1,366,370,0,3,370,371,0,1,372,373,0,3,374,376,0,3,377,378,0,1,378,379,0,3,379,380,0,1,381,382,0,3,383,385,0,2,386,387,0,3,387,388,0,1,389,390,0,3,391,393,0,1,394,399,0,3,399,400,0,1,401,405,0,1,406,410,0,3,410,411,0,3,412,413,0,1,413,417,0,3,418,420,0,1,421,425,0,3,425,426,0,1,426,427,0,3,428,430,0,1,431,432,0,3,433,435,0,3,436,437,0,1,437,438,0,3,438,439,0,1,439,440,0,3,441,443,0,1,444,445,0,3,446,448,0,1,449,450,0,3,451,453,0,3,454,455,0,1,455,456,0,3,456,457,0,1,457,458,0,3,458,459,0,3,459,460,0,3,461,463,0,1,464,465,0,3,466,468,0,1,469,473,0,3,473,474,0,1,474,475,0,3,476,478,0,1,479,480,0,3,481,483,0,1,484,485,0,3,485,486,0,1,486,487,0,3,487,488,0,3,488,489,0,1,490,491,0,3,492,494,0,1,495,499,0,3,499,500,0,1,500,501,0,3,502,504,0,1,505,506,0,3,507,509,0,1,510,511,0,3,511,512,0,1,512,513,0,3,513,514,0,3,514,515,0,1,516,517,0,3,518,520,0,2,521,522,0,3,522,523,0,1,524,525,0,3,526,528,0,1,529,534,0,3,534,535,0,1,536,540,0,1,541,547,0,3,547,548,0,1,549,550,0,3,551,553,0,1,554,557,0,3,557,558,0,1,558,559,0,3,559,560,0,1,560,561,0,3,562,564,0,1,565,566,0,3,566,567,0,1,567,571,0,3,572,574,0,3,575,576,0,1,576,577,0,3,577,578,0,1,578,579,0,3,580,582,0,1,583,584,0,3,584,585,0,1,585,586,0,3,587,589,0,1,590,591,0,3,591,592,0,3,593,595,0,1,596,597,0,3,598,600,0,1,601,606,0,3,606,607,0,1,608,612,0,1,613,616,0,3,616,617,0,3,618,619,0,1,619,620,0,3,621,623,0,3,624,625,0,1,625,626,0,3,627,629,0,1,630,634,0,3,634,635,0,1,635,636,0,3,636,637,0,1,637,638,0,3,639,641,0,1,642,643,0,3,643,644,0,1,644,648,0,3,649,651,0,1,652,653,0,3,653,654,0,1,654,655,0,3,656,658,0,3,659,660,0,1,660,661,0,3,661,662,0,1,662,663,0,3,663,664,0,3,665,667,0,1,668,669,0,3,670,672,0,1,673,677,0,3,677,678,0]))]
set_option maxHeartbeats 4000000 in
theorem me0:TY HU gp 4000 71 mu0 [2567]=some (mg0,2568,mo0):=by kernel_rfl
noncomputable def Kl (f:Nat) (a:List GV) (H:GH):Option (GV×GH):=bif Nat.beq f 71 then(bif isS a (Vq,679)then PG mg0 2568 mo0 H else XN f a H)else XN f a H
noncomputable def agQ:GP:=⟨wL,gp.cat,Kl,gp.exn⟩
theorem HE {T:Nat} {k:eV (gl T)} {w:World} {e:dX} {H i:GH} {g:GV} {d:List GV} {j:fR} {f:Nat} (h:Kl f d H=some (g,i)) (R:fQ k e H w) (a:pE e d j):kI Tryz.prog k e f j w g i:=by
 unfold Kl at h;cases b:Nat.beq f 71 with
 |false=>rw[b]at h;exact Nw h R a
 | true =>
  rw[b]at h;cases c:isS d (Vq,679)with
  |false=>rw[c]at h;exact Nw h R a
  |true=>
   rw[c]at h;rw[Nat.eq_of_beq_eq_true b];rw[Yc c]at a;obtain⟨V,rfl,n⟩:=a.one;obtain⟨x,rfl,l,m⟩:=n.str_inv;exact TZ (gs:=gl T) (gs2:=gl T) Z Z GT XP me0 Tryz.call71 (pE.cons (SG l m) .nil) h R
theorem acs {T:Nat} (a:eV (gl T)):UF Tryz.prog agQ HU.fns a:=⟨(XP a).tab,(XP a).mixed,(XP a).fns,λh d w c R b=>HE h R b,(XP a).exn,(XP a).cat⟩
def mu1:List GV:=[.str Vq 679]
def mg1:GV:=(.agg [(.str 499918267762 5),(.sl 2815 0 6 6),(.sl 4970 0 6 3)])
def Yv:OL:=[(2815,2815,.cells [(.str 100 1),(.int .i64 (.ofNat 1)),(.int .i64 (.ofNat 0)),(.int .i64 (.ofNat 0)),(.int .i64 (.ofNat 1)),(.int .i64 (.ofNat 0)),(.str 112 1),(.int .i64 (.ofNat 3)),(.int .i64 (.ofNat 0)),(.int .i64 (.ofNat 0)),(.int .i64 (.ofNat 0)),(.int .i64 (.ofNat 0)),(.str 115 1),(.int .i64 (.ofNat 2)),(.int .i64 (.ofNat 0)),(.int .i64 (.ofNat 0)),(.int .i64 (.ofNat 0)),(.int .i64 (.ofNat 0)),(.str 98 1),(.int .i64 (.ofNat 2)),(.int .i64 (.ofNat 0)),(.int .i64 (.ofNat 0)),(.int .i64 (.ofNat 0)),(.int .i64 (.ofNat 0)),(.str 121 1),(.int .i64 (.ofNat 1)),(.int .i64 (.ofNat 0)),(.int .i64 (.ofNat 3)),(.int .i64 (.ofNat 0)),(.int .i64 (.ofNat 0)),(.str 114 1),(.int .i64 (.ofNat 2)),(.int .i64 (.ofNat 0)),(.int .i64 (.ofNat 0)),(.int .i64 (.ofNat 0)),(.int .i64 (.ofNat 0))]),
 (2939,2939,.cells (Ag [41,0,10,0,42,0,36,0,5,0,1,0,36,0,5,1,4,0])),
 (2965,2965,.cells [(.int .i64 (.ofNat 1)),(.int .i64 (.ofNat 0))]),
 (2998,2998,.cells [(.int .i64 (.ofNat 4)),(.int .i64 (.ofNat 0))]),
 (3006,3006,.cells [(.int .i64 (.ofNat 0)),(.sl 2965 0 1 2),(.int .i64 (.ofNat 1)),(.sl 2998 0 1 2)]),
 (3394,3394,.cells (Ag [41,0,19,0,10,0,42,0,36,0,5,0,43,0,37,0,24,0,12,0,6,0,33,0,24,0,12,0,1,1,6,0,36,0,5,1,23,0,35,0,12,0,24,0,12,0])),
 (3575,3575,.cells (Ag [43,0,37,0,24,0,12,0,6,0,33,0,24,0,12,0,1,1,6,0])),
 (3701,3701,.cells (Ag [23,0,35,0,12,0,24,0,12,0])),
 (3709,3709,.cells [(.int .i64 (.ofNat 0)),(.sl 3575 0 10 2),(.int .i64 (.ofNat 1)),(.sl 3701 0 5 2)]),
 (3798,3798,.cells (Ag [41,0,41,0,10,0,19,0,5,2,5,5])),
 (3825,3825,.cells [(.int .i64 (.ofNat 2)),(.int .i64 (.ofNat 0))]),
 (3867,3867,.cells (Ag [19,0,5,3])),
 (3899,3899,.cells [(.int .i64 (.ofNat 1)),(.int .i64 (.ofNat 0))]),
 (3932,3932,.cells [(.int .i64 (.ofNat 3)),(.int .i64 (.ofNat 0))]),
 (3940,3940,.cells [(.int .i64 (.ofNat 2)),(.sl 3825 0 1 2),(.int .i64 (.ofNat 3)),(.sl 3867 0 2 2),(.int .i64 (.ofNat 4)),(.sl 3899 0 1 2),(.int .i64 (.ofNat 5)),(.sl 3932 0 1 2)]),
 (4174,4174,.cells (Ag [41,0,19,0,10,0,21,0,41,0,35,0,11,0,5,1,42,0,36,0,12,3,5,3,41,0,5,2,19,0,12,2])),
 (4274,4274,.cells (Ag [21,0,41,0,35,0,11,0,5,1,12,2])),
 (4380,4380,.cells (Ag [21,0,41,0,35,0,11,0,5,1,12,3])),
 (4412,4412,.cells [(.int .i64 (.ofNat 1)),(.int .i64 (.ofNat 0))]),
 (4445,4445,.cells [(.int .i64 (.ofNat 3)),(.int .i64 (.ofNat 0))]),
 (4453,4453,.cells [(.int .i64 (.ofNat 2)),(.sl 4274 0 6 2),(.int .i64 (.ofNat 3)),(.sl 4380 0 6 2),(.int .i64 (.ofNat 4)),(.sl 4412 0 1 2),(.int .i64 (.ofNat 5)),(.sl 4445 0 1 2)]),
 (4664,4664,.cells (Ag [41,0,5,2,20,0,42,0,36,0,12,1,17,0,41,0,19,0,12,2,35,0,12,3,5,3])),
 (4691,4691,.cells [(.int .i64 (.ofNat 3)),(.int .i64 (.ofNat 0))]),
 (4699,4699,.cells [(.int .i64 (.ofNat 2)),(.sl 4691 0 1 2)]),
 (4927,4927,.cells (Ag [41,0,41,0,19,0,5,2,19,0,5,5,21,0,41,0,41,0,35,0,12,1,17,0,12,5,19,0,12,2])),
 (4954,4954,.cells [(.int .i64 (.ofNat 2)),(.int .i64 (.ofNat 0))]),
 (4962,4962,.cells [(.int .i64 (.ofNat 5)),(.sl 4954 0 1 2)]),
 (4970,4970,.cells [(.str 7368564 3),(.sl 2939 0 9 2),(.sl 3006 0 2 2),(.str 7827308 3),(.sl 3394 0 23 2),(.sl 3709 0 2 2),(.str 474214786402 5),(.sl 3798 0 6 2),(.sl 3940 0 4 2),(.str 1701536116 4),(.sl 4174 0 16 2),(.sl 4453 0 4 2),(.str 114844899371366 6),(.sl 4664 0 13 2),(.sl 4699 0 1 2),(.str 7041889 3),(.sl 4927 0 15 2),(.sl 4962 0 1 2)])]
set_option maxHeartbeats 4000000 in
theorem me1:TY HU agQ 4000 23 mu1 [2815,2939,2965,2998,3006,3394,3575,3701,3709,3798,3825,3867,3899,3932,3940,4174,4274,4380,4412,4445,4453,4664,4691,4699,4927,4954,4962,4970]=some (mg1,7588,Yv):=by kernel_rfl
noncomputable def R_ (f:Nat) (a:List GV) (H:GH):Option (GV×GH):=bif Nat.beq f 23 then(bif isS a (Vq,679)then PG mg1 7588 Yv H else Kl f a H)else Kl f a H
noncomputable def agS:GP:=⟨wL,gp.cat,R_,gp.exn⟩
theorem Vo {T:Nat} {k:eV (gl T)} {w:World} {e:dX} {H i:GH} {g:GV} {d:List GV} {j:fR} {f:Nat} (h:R_ f d H=some (g,i)) (R:fQ k e H w) (a:pE e d j):kI Tryz.prog k e f j w g i:=by
 unfold R_ at h;cases b:Nat.beq f 23 with
 |false=>rw[b]at h;exact HE h R a
 | true =>
  rw[b]at h;cases c:isS d (Vq,679)with
  |false=>rw[c]at h;exact HE h R a
  |true=>
   rw[c]at h;rw[Nat.eq_of_beq_eq_true b];rw[Yc c]at a;obtain⟨V,rfl,n⟩:=a.one;obtain⟨x,rfl,l,m⟩:=n.str_inv;exact TZ (gs:=gl T) (gs2:=gl T) Z Z GT acs me1 Tryz.call23 (pE.cons (SG l m) .nil) h R
theorem agP {T:Nat} (a:eV (gl T)):UF Tryz.prog agS HU.fns a:=⟨(XP a).tab,(XP a).mixed,(XP a).fns,λh d w c R b=>Vo h R b,(XP a).exn,(XP a).cat⟩
noncomputable abbrev gp2:GP:=agS
theorem ajW {T:Nat} (a:eV (gl T)):UF Tryz.prog gp2 HU.fns a:=agP a
end Go.Gx
end
namespace Go.Gx
open Go Go.Sx Go.RowKit
structure Hd (n:Nat) (os:OL) (ρ:dX) (w:World) (S:Nat->Prop):Prop where
 live:∀h o,(Jf n os).get h=some o->∃l,ρ h=some l∧S l.b∧yE ρ w l o
 inj:∀h h' o o' l l',(Jf n os).get h=some o->(Jf n os).get h'=some o'->ρ h=some l->ρ h'=some l'->l.b=l'.b->h=h'
 fresh:∀h,n<=h->ρ h=none
 dense:∀h,h<n->∃l,ρ h=some l
 vers:∀h v l,(Jf n os).ver h=some v->ρ h=some l->∃lv,ρ v=some lv∧w.heap[l.b]? = some lv.x∧(Jf n os).get h=some lv.o
theorem Hd.mono {n:Nat} {p:OL} {f:dX} {w w':World} {S g:Nat->Prop} (H:Hd n p f w S) (h:∀k,S k->k<w.heap.size->g k∧w'.heap[k]? = w.heap[k]?):Hd n p f w' g:=by
 refine⟨λk o s=> ?_,H.inj,H.fresh,H.dense,λk v l m j=> ?_⟩
 ·obtain⟨l,a,b,c⟩:=H.live k o s;obtain⟨d,e⟩:=h _ b c.lt;exact⟨l,a,d,c.move (dX.le_refl f) e⟩
 ·obtain⟨u,a,b,c⟩:=H.vers k v l m j;obtain⟨o,t⟩:=sI.1 m;obtain⟨x,i,q,r⟩:=H.live k o (gY.2 ⟨v,t⟩);rw[j]at i;cases i;exact⟨u,a,by rw[(h _ q r.lt).2];exact b,c⟩
theorem fQ.hd {gs:zN} {b:eV gs} {n:Nat} {d:OL} {ρ:dX} {w:World} {S:Nat->Prop} (R:fQ b ρ (Jf n d) w) (e:∀k,b.mine k->S k):Hd n d ρ w S:=
 ⟨λh o f=>let ⟨l,a,b,c⟩:=R.live h o f;⟨l,a,e _ b,c⟩,R.inj,R.fresh,R.dense,R.vers⟩
def Wb (n:Nat) (b:OL) (g:GV) (V:Value):bA where
 p w S:=∃a,Hd n b a w S∧Rl a g V
 mono:=fun⟨a,h,r⟩ k=>⟨a,h.mono k,r⟩
def Hd.O (n:Nat) (a:OL) (c:dX) (k:Nat):Prop:=∃h o l,(Jf n a).get h=some o∧c h=some l∧l.b=k
def Hd.base (n:Nat) (os:OL) (ρ:dX) (w:World):eV noG:=⟨w,Hd.O n os ρ,λ_ h=>absurd h List.not_mem_nil⟩
theorem Hd.rel {n:Nat} {b:OL} {ρ:dX} {w:World} {S:Nat->Prop} (H:Hd n b ρ w S):fQ (Hd.base n b ρ w) ρ (Jf n b) w:=
 ⟨BY.refl w,λh o d=>let ⟨l,a,_,c⟩:=H.live h o d;⟨l,a,.inr ⟨h,o,l,d,a,rfl⟩,c⟩,H.inj,H.fresh,H.dense,H.vers,λi v e=>by simp[Hd.base,noG]at e⟩
noncomputable def Fq (H:GH) (b:OL):Bool:=List.rec (motive:=λ_=>Bool) true (λx _ a=>Option.casesOn (motive:=λ_=>Bool) (H.ver x.1) false λv=>bif Nat.beq v x.2.1 then a else false) b
theorem Qh {H:GH}:∀{a:OL},Fq H a=true->∀x∈a,H.ver x.1=some x.2.1
 | [],_,x,b=>by cases b
 | y :: a, h, x, b => by
  have h:Option.casesOn (motive:=λ_=>Bool) (H.ver y.1) false (λv=>bif Nat.beq v y.2.1 then Fq H a else false)=true:=h;cases c:H.ver y.1 with
  |none=>rw[c]at h;cases h
  | some v =>
   rw[c]at h;obtain⟨d,f⟩:=bN.1 (show(bif Nat.beq v y.2.1 then(some (Fq H a))else none)=some true by
    have h:(bif Nat.beq v y.2.1 then Fq H a else false)=true:=h;cases e:Nat.beq v y.2.1<;>rw[e]at h<;>first|cases h|(show some (Fq H a)=some true;rw[show Fq H a=true from h]))
   rcases List.mem_cons.1 b with rfl|b
   ·rw[c,Nat.eq_of_beq_eq_true d]
   ·exact Qh (Option.some.inj f) x b
noncomputable def okV (a:OL) (r:OR):Bool:=Option.casesOn (motive:=λ_=>Bool) r false λr=>Option.casesOn (motive:=λ_=>Bool) r.1.asB false λb=>bif b then Fq r.2 a else false
theorem YE {d:OL} {r:OR} (h:okV d r=true):∃a,r=some (.bool true,a)∧Fq a d=true:=by
 cases r with
 |none=>cases h
 | some r =>
  obtain⟨g,a⟩:=r;have h:Option.casesOn (motive:=λ_=>Bool) g.asB false (λb=>bif b then Fq a d else false)=true:=h;cases c:g.asB with
  |none=>rw[c]at h;cases h
  |some b=>
   rw[c]at h;cases b with
   |false=>cases h
   |true=>exact⟨a,by rw[BJ c],h⟩
theorem Vt {P:Program} {G:GP} {x:FT} (F:∀T:eV noG,UF P G x T) {fuel f n:Nat} {d:OL} {g:GV} {V:Value} (H:aV P f) (h:∃r,Tu G x fuel f [g] (Jf n d)=some (.bool true,r)∧Fq r d=true) {w:World} {S:Nat->Prop} (Q:(Wb n d g V).p w S):
  Calls P f #[V] w λe u=>e = .returned (.bool true)∧MQ w u:=by
 obtain⟨U,y,M⟩:=Q;obtain⟨r,D,E⟩:=h;rcases Gs F D y.rel (.cons M .nil)with⟨v,u,W,m,_⟩|⟨_,I⟩
 ·have:=H #[V] w;rw[this]at m;cases m
 ·refine I.mono ?_;rintro e u ⟨v,X,rfl,j,c,N⟩;refine⟨by rw[N.bool_inv],c.ext.os,c.ext.tape,c.ext.output,c.ext.size,λk K=> ?_⟩
  by_cases A:Hd.O n d U k
  ·obtain⟨i,o,l,J,z,rfl⟩:=A;obtain⟨t,q⟩:=gY.1 J;have L:(i,t,o)∈d:=NE ((Ed d i).symm.trans q);obtain⟨R,a,b,_⟩:=y.vers i t l (sI.2 ⟨o,q⟩) z;obtain⟨s,B,C,_⟩:=c.vers i t l (Qh E _ L) (j _ _ z);have:R=s:=by have:=j _ _ a;rw[B]at this;exact(Option.some.inj this).symm
   subst this;exact C.trans b.symm
  ·exact c.ext.block k K A
end Go.Gx
namespace Go.Proofs.YtmdlcmbplnhdnaaGreatDoor
open Go Go.Sx Go.Gx
set_option maxRecDepth 100000
abbrev wA:=ByteArray×(Value×fS)×(Value×List (Int×(Value×fS)))
def yP (z:wA):fS×List (Int×fS):=(z.2.1.2,z.2.2.2.map λs=>(s.1,s.2.2))
def BP:ByteArray:=(ByteArray.mk #[112,114,111,103,114,97,109,32,114,101,115,101,116,59,10,118,97,114,32,100,32,58,32,48,32,46,46,32,110,59,10,118,97,114,32,112,32,58,32,112,111,114,116,59,10,118,97,114,32,115,32,58,32,98,111,111,108,59,10,118,97,114,32,98,32,58,32,98,111,111,108,59,10,118,97,114,32,121,32,58,32,48,32,46,46,32,51,59,10,118,97,114,32,114,32,58,32,98,111,111,108,59,10,114,117,108,101,32,116,111,112,58,32,114,111,111,116,32,38,38,32,40,100,32,33,61,32,48,32,124,124,32,112,32,33,61,32,110,111,110,101,41,32,45,62,32,100,32,58,61,32,48,44,32,112,32,58,61,32,110,111,110,101,59,10,114,117,108,101,32,108,111,119,58,32,33,114,111,111,116,32,38,38,32,40,100,32,33,61,32,40,109,105,110,40,113,46,100,41,32,60,32,110,32,63,32,109,105,110,40,113,46,100,41,32,43,32,49,32,58,32,110,41,32,124,124,32,112,32,33,61,32,102,105,114,115,116,40,113,46,100,32,61,61,32,109,105,110,40,113,46,100,41,41,41,10,32,32,45,62,32,100,32,58,61,32,40,109,105,110,40,113,46,100,41,32,60,32,110,32,63,32,109,105,110,40,113,46,100,41,32,43,32,49,32,58,32,110,41,44,32,112,32,58,61,32,102,105,114,115,116,40,113,46,100,32,61,61,32,109,105,110,40,113,46,100,41,41,59,10,114,117,108,101,32,98,101,103,105,110,58,32,114,111,111,116,32,38,38,32,33,115,32,38,38,32,114,32,45,62,32,115,32,58,61,32,116,114,117,101,44,32,98,32,58,61,32,33,98,44,32,121,32,58,61,32,48,44,32,114,32,58,61,32,102,97,108,115,101,59,10,114,117,108,101,32,116,97,107,101,58,32,33,114,111,111,116,32,38,38,32,115,111,109,101,40,113,32,61,61,32,112,32,38,38,32,40,113,46,98,32,33,61,32,98,32,124,124,32,115,32,38,38,32,33,113,46,115,41,41,32,45,62,32,115,32,58,61,32,115,111,109,101,40,113,32,61,61,32,112,32,38,38,32,113,46,115,41,44,32,98,32,58,61,32,115,111,109,101,40,113,32,61,61,32,112,32,38,38,32,113,46,98,41,44,32,121,32,58,61,32,48,44,32,114,32,58,61,32,102,97,108,115,101,59,10,114,117,108,101,32,102,105,110,105,115,104,58,32,115,32,38,38,32,97,108,108,40,113,46,112,32,33,61,32,113,46,98,97,99,107,32,124,124,32,33,113,46,115,32,38,38,32,113,46,98,32,61,61,32,98,41,32,45,62,32,115,32,58,61,32,102,97,108,115,101,59,10,114,117,108,101,32,97,115,107,58,32,33,115,32,38,38,32,33,114,32,38,38,32,115,111,109,101,40,113,46,112,32,61,61,32,113,46,98,97,99,107,32,38,38,32,113,46,114,32,38,38,32,33,113,46,115,41,32,45,62,32,114,32,58,61,32,116,114,117,101,59,10])
def HS:Ix:=[((ByteArray.mk #[100]),(1:Int),(0:Int),(0:Int),(1:Int),(0:Int)),((ByteArray.mk #[112]),(3:Int),(0:Int),(0:Int),(0:Int),(0:Int)),((ByteArray.mk #[115]),(2:Int),(0:Int),(0:Int),(0:Int),(0:Int)),((ByteArray.mk #[98]),(2:Int),(0:Int),(0:Int),(0:Int),(0:Int)),((ByteArray.mk #[121]),(1:Int),(0:Int),(3:Int),(0:Int),(0:Int)),((ByteArray.mk #[114]),(2:Int),(0:Int),(0:Int),(0:Int),(0:Int))]
def CQ:Lb:=[([(41,0),(10,0),(42,0),(36,0),(5,0),(1,0),(36,0),(5,1),(4,0)],[(0,[(1,0)]),(1,[(4,0)])]),([(41,0),(19,0),(10,0),(42,0),(36,0),(5,0),(43,0),(37,0),(24,0),(12,0),(6,0),(33,0),(24,0),(12,0),(1,1),(6,0),(36,0),(5,1),(23,0),(35,0),(12,0),(24,0),(12,0)],[(0,[(43,0),(37,0),(24,0),(12,0),(6,0),(33,0),(24,0),(12,0),(1,1),(6,0)]),(1,[(23,0),(35,0),(12,0),(24,0),(12,0)])]),([(41,0),(41,0),(10,0),(19,0),(5,2),(5,5)],[(2,[(2,0)]),(3,[(19,0),(5,3)]),(4,[(1,0)]),(5,[(3,0)])]),([(41,0),(19,0),(10,0),(21,0),(41,0),(35,0),(11,0),(5,1),(42,0),(36,0),(12,3),(5,3),(41,0),(5,2),(19,0),(12,2)],[(2,[(21,0),(41,0),(35,0),(11,0),(5,1),(12,2)]),(3,[(21,0),(41,0),(35,0),(11,0),(5,1),(12,3)]),(4,[(1,0)]),(5,[(3,0)])]),([(41,0),(5,2),(20,0),(42,0),(36,0),(12,1),(17,0),(41,0),(19,0),(12,2),(35,0),(12,3),(5,3)],[(2,[(3,0)])]),([(41,0),(41,0),(19,0),(5,2),(19,0),(5,5),(21,0),(41,0),(41,0),(35,0),(12,1),(17,0),(12,5),(19,0),(12,2)],[(5,[(2,0)])])]
def acy:List ((Nat×Nat)×fS×List (Int×fS)):=[((7368564,3),[(41,0),(10,0),(42,0),(36,0),(5,0),(1,0),(36,0),(5,1),(4,0)],[(0,[(1,0)]),(1,[(4,0)])]),((7827308,3),[(41,0),(19,0),(10,0),(42,0),(36,0),(5,0),(43,0),(37,0),(24,0),(12,0),(6,0),(33,0),(24,0),(12,0),(1,1),(6,0),(36,0),(5,1),(23,0),(35,0),(12,0),(24,0),(12,0)],[(0,[(43,0),(37,0),(24,0),(12,0),(6,0),(33,0),(24,0),(12,0),(1,1),(6,0)]),(1,[(23,0),(35,0),(12,0),(24,0),(12,0)])]),((474214786402,5),[(41,0),(41,0),(10,0),(19,0),(5,2),(5,5)],[(2,[(2,0)]),(3,[(19,0),(5,3)]),(4,[(1,0)]),(5,[(3,0)])]),((1701536116,4),[(41,0),(19,0),(10,0),(21,0),(41,0),(35,0),(11,0),(5,1),(42,0),(36,0),(12,3),(5,3),(41,0),(5,2),(19,0),(12,2)],[(2,[(21,0),(41,0),(35,0),(11,0),(5,1),(12,2)]),(3,[(21,0),(41,0),(35,0),(11,0),(5,1),(12,3)]),(4,[(1,0)]),(5,[(3,0)])]),((114844899371366,6),[(41,0),(5,2),(20,0),(42,0),(36,0),(12,1),(17,0),(41,0),(19,0),(12,2),(35,0),(12,3),(5,3)],[(2,[(3,0)])]),((7041889,3),[(41,0),(41,0),(19,0),(5,2),(19,0),(5,5),(21,0),(41,0),(41,0),(35,0),(12,1),(17,0),(12,5),(19,0),(12,2)],[(5,[(2,0)])])]
def PF (V:Value):bA:=⟨λw S=>(Wb 7588 Yv mg1 V).p w S,λ{w w' S S'} h k=>by
 rcases h with h
 ·exact((Wb 7588 Yv mg1 V).mono h k)⟩
noncomputable def UT {R:Type} (D:Lb) (k:List wA->Option R):Option R:=open Classical in if h:∃r,∀z:List wA,z.map yP=D->k z=some r then some (Classical.choose h)else none
theorem LF {R:Type} {D:Lb} {k:List wA->Option R} {r:R} (h:UT D k=some r) (z:List wA) (a:z.map yP=D):k z=some r:=by
 unfold UT at h;split at h
 ·rename_i e;rw[<-Option.some.inj h];exact Classical.choose_spec e z a
 cases h
theorem Tg {R:Type} {D:Lb} {k:List wA->Option R} {r:R} (h:∀z:List wA,z.map yP=D->k z=some r):UT D k=some r:=by
 have e:∃r,∀z:List wA,z.map yP=D->k z=some r:=⟨r,h⟩
 unfold UT;rw[dif_pos e];let z:List wA:=D.map λx=>(ByteArray.empty,(undef,x.1),(undef,x.2.map λs=>(s.1,(undef,s.2))))
 have c:z.map yP=D:=by
  show(D.map _).map yP=D;rw[List.map_map]
  conv=>rhs;rw[<-List.map_id D]
  refine List.map_congr_left λx _=>?_;obtain⟨a,b⟩:=x;simp[yP,Function.comp_def]
 rw[<-Classical.choose_spec e z c,h z c]
def mC (a:Nat) (b:ByteArray):Option Zg:=if b=BP then some ((ByteArray.mk #[114,101,115,101,116]),HS,CQ)else none
theorem Ry:aV Tryz.prog 23:=Tryz.call23
theorem Tn:aV Tryz.prog 118:=Tryz.call118
theorem PW:IA BP=(62612022078668281795505554093363622559854195865949253215105900396045672359969877880166549174032343132993734957765569202214538907514566311350427701009544032694847337705793280154083690688451269616688782133795410379376928705130345296445151552924450334836917827234573469831105668184247309683323748037249326305257450566500613104582596739355858495108587194514699348039550352061107652063950585699432193800786308390540153052463342825471615451497403378237530695269756800903089344746135921082798862585170912282432061314226997690214573863871773160495090950365393003392302336199511227963345777762340303723847551010267882950244475187531638497589816884840746003832656122559568072415127281877587919955134951848720898362784721630179183632514071187737718801766045181382178059597531935953865739058317213402067112106178269539818406468794623567714368406699984352401615611648009540554670638379077003046691601651659503488023036016650041344236444492625067110609540290467946795853434537583557082408411183186533670519462632865144031819183310381452310956185194634675703732849182713820334837695243446565596654286740386031565011357996399800921820918955437335624617843094112596863701508946442457135114386851122925397296113071978999231011209672540734656076492347048890983156526043032785285927167596865683405763291449118335047510792439178363711784660496025932951555546329846668545661249500619781993860494368395467151808107769959479474456951167188694307489519361853029722953071634727739222067984252267479508130870821814111526873691367656719627636282162632229619012164283959600299915921951610829461135327475232013270964287406921117221047932843602716792612622967992944,679):=by kernel_rfl
theorem YJ:IA (ByteArray.mk #[114,101,115,101,116])=(499918267762,5):=by kernel_rfl
theorem YM:Np (Jf 7588 Yv) 6 (dP 1 ad_ (dP 1 (dI .i64) (dP 1 (dI .i64) (dP 1 (dI .i64) (dP 1 (dI .i64) (dI .i64)))))) (.sl 2815 0 6 6)=some (HS.map λz=>(IA z.1,z.2.1,z.2.2.1,z.2.2.2.1,z.2.2.2.2.1,z.2.2.2.2.2)):=by kernel_rfl
theorem VI:Np (Jf 7588 Yv) 3 (dP 1 ad_ (dP 1 (dS (Jf 7588 Yv) 2 (dP 1 (dI .i64) (dI .i64))) (dS (Jf 7588 Yv) 2 (dP 1 (dI .i64) (dS (Jf 7588 Yv) 2 (dP 1 (dI .i64) (dI .i64))))))) (.sl 4970 0 6 3)=some acy:=by kernel_rfl
theorem abF:acy.map (λy=>(y.2.1,y.2.2))=CQ:=by kernel_rfl
theorem YK (r:Zg) (h:some ((ByteArray.mk #[114,101,115,101,116]),HS,CQ)=some r):aX Tryz.prog 23 #[vS BP] [Gb 0 (cellsOf Hn wP)] (λx:Value×Value×{z:List wA // z.map yP=r.2.2}=>Value.agg #[vS r.1,x.1,x.2.1]) (λx l=>l) (λx l=>Sl aQ x.1 r.2.1::Sl aJ x.2.1 x.2.2.1::PF (Value.agg #[vS r.1,x.1,x.2.1])::l):=by
 cases h;refine Sq (gs:=gl) (LO:=λx:Value×Value×{z:List wA // z.map yP=CQ}=>[Sl aQ x.1 HS,Sl aJ x.2.1 x.2.2.1,PF (Value.agg #[vS (ByteArray.mk #[114,101,115,101,116]),x.1,x.2.1])]) XO (λT b=>Vz GT acs me1 Ry (.cons (SG (x:=BP) (congrArg Prod.fst PW).symm (congrArg Prod.snd PW).symm) .nil) Z b) ?_;intro T b B w V a R g;have y:=g;obtain⟨f,rfl,c,_⟩:=g.agg_inv;obtain⟨C,f,rfl,m,c⟩:=c.of_cons;obtain⟨j,f,rfl,n,c⟩:=c.of_cons;obtain⟨k,rfl,o⟩:=c.one;obtain rfl:=abX m YJ;obtain⟨A,v,s⟩:=CB R a (iG.pair iG.str (iG.pair (iG.int .i64) (iG.pair (iG.int .i64) (iG.pair (iG.int .i64) (iG.pair (iG.int .i64) (iG.int .i64)))))) n YM;have e:A=HS:=Ks (DZ (λ_ _=>Pr) (DZ Ko (DZ Ko (DZ Ko (DZ Ko Ko))))) v;subst e;obtain⟨i,u,t⟩:=CB (r:=aJ) R a (iG.pair iG.str (iG.pair (iG.sl R a (iG.pair (iG.int .i64) (iG.int .i64))) (iG.sl R a (iG.pair (iG.int .i64) (iG.sl R a (iG.pair (iG.int .i64) (iG.int .i64))))))) o VI;have d:i.map yP=CQ:=by
  rw[<-abF,<-u,List.map_map];refine List.map_congr_left λx _=>?_;simp[yP,Function.comp_def]
 exact⟨(j,k,⟨i,d⟩),rfl,List.forall_mem_cons.2 ⟨s,List.forall_mem_cons.2 ⟨t,List.forall_mem_cons.2 ⟨(⟨B,fQ.hd R a,y⟩),λq p=>absurd p List.not_mem_nil⟩⟩⟩⟩
theorem Zx:okV Yv (JN HU gp0 4000 118 [mg1] (Jf 7588 Yv))=true:=by kernel_rfl
theorem Dj (a:Nat) {b:ByteArray} (r:Zg) (h:mC a b=some r):aX Tryz.prog 23 #[vS b] [Gb 0 (cellsOf Hn wP)] (λx:Value×Value×{z:List wA // z.map yP=r.2.2}=>Value.agg #[vS r.1,x.1,x.2.1]) (λx l=>l) (λx l=>Sl aQ x.1 r.2.1::Sl aJ x.2.1 x.2.2.1::PF (Value.agg #[vS r.1,x.1,x.2.1])::l):=by
 unfold mC at h;by_cases c:b=BP
 ·subst c;exact YK r ((if_pos Z).symm.trans h)
 rw[if_neg c]at h;cases h
theorem PV (f:Nat):mC f BP=some ((ByteArray.mk #[114,101,115,101,116]),HS,CQ):=by
 unfold mC;exact if_pos Z
def BO (fuel:Nat) (a:ByteArray×List (ByteArray×Int×Int×Int×Int×Int)×List (wA)):Option Bool:=some true
theorem Lw (a:Nat) {b:ByteArray×List (ByteArray×Int×Int×Int×Int×Int)×List (wA)} (d f:Value) (r:Bool) (h:BO a b=some r):
  aX Tryz.prog 118 #[Value.agg #[vS b.1,d,f]] [Sl aQ d b.2.1,Sl aJ f b.2.2,PF (Value.agg #[vS b.1,d,f])] (λx:Unit=>vB (r)) (λx l=>l) (λ_ l=>l):=by
 cases h;intro w S z;have g:Calls Tryz.prog 118 #[Value.agg #[vS b.1,d,f]] w λe o=>e = .returned (.bool true)∧MQ w o:=by
  rcases z _ (List.mem_of_getElem? (i:=2) rfl)with v
  ·refine Vt (fuel:=4000) ajV Tn ?_ v;obtain⟨p,n,s⟩:=YE Zx;rw[Gt (G:=gp0) GT]at n;exact⟨p,n,s⟩
 refine g.mono ?_;rintro e o ⟨rfl,c⟩;exact⟨(),rfl,⟨c.os,c.tape,c.output,c.size,λk t _=>c.block k t⟩,λ_ _=>False,⟨λi m u=>by simp at u,λi k h=>h.elim,λi j k h=>h.elim⟩,λq y=>by simp at y⟩
end Go.Proofs.YtmdlcmbplnhdnaaGreatDoor
namespace Go.Proofs.YtmdlcmbplnhdnaaGreatDoor
open Go Go.Sx
abbrev ahN:=Ev
abbrev PRG:=ByteArray×(List ahN)×(List wA)
abbrev GRF:=List Int×fP
abbrev SCN:=PRG×GRF×Int×bG
abbrev WLK:=SCN×bG×Int×fS
inductive E where
 |lf (o a:Int)
 |un (o:Int) (x:E)
 |ag (o:Int) (x:E)
 |bi (o:Int) (x y:E)
 |ite (x y z:E)
def E.ts:E->fS
 |lf o a=>[(o,a)]
 |un o x=>(o,0)::x.ts
 |ag o x=>(o,0)::x.ts
 |bi o x y=>(o,0)::(x.ts++y.ts)
 |ite x y z=>(43,0)::(x.ts++(y.ts++z.ts))
def E.depth:E->Nat
 |lf _ _=>1
 |un _ x=>x.depth+1
 |ag _ x=>x.depth+1
 |bi _ x y=>max x.depth y.depth+1
 |ite x y z=>max x.depth (max y.depth z.depth)+1
def E.arOk:E->Bool
 |lf o _=>decide (1<=o)&&decide (o<=17)
 |un o x=>decide (18<=o)&&decide (o<=19)&&x.arOk
 |ag o x=>decide (20<=o)&&decide (o<=29)&&x.arOk
 |bi o x y=>decide (30<=o)&&decide (o<=42)&&x.arOk&&y.arOk
 |ite x y z=>x.arOk&&y.arOk&&z.arOk
theorem Tl {b:Type} [Inhabited b] {T a rest:List b} {x:b} {k:Nat} (c:T=a++x::rest) (d:a.length=k):at' T (k:Int)=x:=by
 subst c;exact UV a rest x k d
theorem fF {k:Nat} (h:k<1000000):wI .i64 ((k:Int)+1)=((k+1:Nat):Int):=by rw[wr (by omega) (by omega)];rfl
theorem WK (f:Nat) {o:Int} (a:1<=o) (b:o<=43):xO f o=some (if o<=17 then 0 else if o<=29 then 1 else if o<=42 then 2 else 3):=by
 unfold xO zI;rw[if_neg (by omega)];simp only[decide_eq_true_eq];rw[if_neg (by omega)];split
 ·rfl
 ·split
  ·rfl
  ·split<;>rfl
theorem Xw {F:Nat} {T c rest:fS} {t:fU} {k m a:Nat} {b:Nat} (d:T=c++t::rest) (g:c.length=k) (i:k<1000) (n:m<3000) (e:xO F t.1=some ((a:Nat):Int)) (f:a<=3) (j:m+a≠0):
  bI (lW F T) (b+1) ((k:Int),(m:Int))=if m+a=1 then some (((k+1:Nat):Int))else bI (lW F T) b (((k+1:Nat):Int),((m+a - 1:Nat):Int)):=by
 have l:k<T.length:=by rw[d];simp;omega
 show lW F T ((k:Int),(m:Int)) (bI (lW F T) b)=_;unfold lW;dsimp only;rw[if_pos (by omega),cA (by omega),Tl d g,bB e,if_neg (by omega),wr (x:=((a:Nat):Int) - 1) (by omega) (by omega),wr (by omega) (by omega),fF (by omega)];by_cases h:m+a=1
 ·rw[if_pos h,if_pos (by omega)]
 ·rw[if_neg h,if_neg (by omega)];have:(m:Int)+((a:Int) - 1)=((m+a - 1:Nat):Int):=by omega
  rw[this]
theorem aaT (F:Nat) (T:fS) (H:T.length<=900):∀(e:E),e.arOk=true->∀(c k m:Nat) (d b:fS),T=d++(e.ts++b)->d.length=k->1<=m->m+2*(e.ts++b).length<=1900->e.ts.length<=c->
  bI (lW F T) c ((k:Int),(m:Int))=if m=1 then some (((k+e.ts.length:Nat):Int))else bI (lW F T) (c - e.ts.length) (((k+e.ts.length:Nat):Int),((m - 1:Nat):Int)):=by
 have r:∀{t:fU} {l b d:fS} {c k m:Nat},T=d++((t::l)++b)->d.length=k->(t::l).length<=c->1<=t.1->t.1<=43->1<=m->m+2*((t::l)++b).length<=1900->∀a:Nat,(if t.1<=17 then 0 else if t.1<=29 then 1 else if t.1<=42 then 2 else 3:Int)=a->a<=3->∃f,c=f+1∧
   bI (lW F T) c ((k:Int),(m:Int))=if m+a=1 then some (((k+1:Nat):Int))else bI (lW F T) f (((k+1:Nat):Int),((m+a - 1:Nat):Int)):=by
  intro t l b d c k m n p q v w i j a I B;have A:=congrArg List.length n;simp only[List.length_append,List.length_cons]at A j q;obtain⟨f,rfl⟩:∃f,c=f+1:=⟨c - 1,by omega⟩
  exact⟨f,rfl,Xw (rest:=l++b) (by simpa using n) p (by omega) (by omega) (by rw[WK F v w,I]) B (by omega)⟩
 intro e
 induction e with
 |lf o a=>
  intro g c k m d b n p i j q;simp only[E.arOk,Bool.and_eq_true,decide_eq_true_eq]at g;obtain⟨f,rfl,h⟩:=r (t:=(o,a)) (l:=[]) n p q (by dsimp only;omega) (by dsimp only;omega) i j 0 (by rw[if_pos (by dsimp only;omega)];rfl) (by omega);rw[h];rfl
 |un o x C=>
  intro g c k m d b n p i j q;simp only[E.arOk,Bool.and_eq_true,decide_eq_true_eq]at g;obtain⟨f,rfl,h⟩:=r (t:=(o,0)) (l:=x.ts) n p q (by dsimp only;omega) (by dsimp only;omega) i j 1 (by rw[if_neg (by dsimp only;omega),if_pos (by dsimp only;omega)];rfl) (by omega);simp only[E.ts,List.length_cons]at q j ⊢;rw[h,if_neg (by omega)];have:=C g.2 f (k+1) m (d++[(o,0)]) b (by rw[n];simp[E.ts]) (by simp[p]) i (by simp at j ⊢;omega) (by omega);rw[show m+1 - 1=m by omega,this,show k+1+x.ts.length=k+(x.ts.length+1) by omega,show f+1 - (x.ts.length+1)=f - x.ts.length by omega]
 |ag o x C=>
  intro g c k m d b n p i j q;simp only[E.arOk,Bool.and_eq_true,decide_eq_true_eq]at g;obtain⟨f,rfl,h⟩:=r (t:=(o,0)) (l:=x.ts) n p q (by dsimp only;omega) (by dsimp only;omega) i j 1 (by rw[if_neg (by dsimp only;omega),if_pos (by dsimp only;omega)];rfl) (by omega);simp only[E.ts,List.length_cons]at q j ⊢;rw[h,if_neg (by omega)];have:=C g.2 f (k+1) m (d++[(o,0)]) b (by rw[n];simp[E.ts]) (by simp[p]) i (by simp at j ⊢;omega) (by omega);rw[show m+1 - 1=m by omega,this,show k+1+x.ts.length=k+(x.ts.length+1) by omega,show f+1 - (x.ts.length+1)=f - x.ts.length by omega]
 |bi o x y s u=>
  intro g c k m d b n p i j q;simp only[E.arOk,Bool.and_eq_true,decide_eq_true_eq]at g;obtain⟨f,rfl,h⟩:=r (t:=(o,0)) (l:=x.ts++y.ts) n p q (by dsimp only;omega) (by dsimp only;omega) i j 2 (by rw[if_neg (by dsimp only;omega),if_neg (by dsimp only;omega),if_pos (by dsimp only;omega)];rfl) (by omega);simp only[E.ts,List.length_cons,List.length_append]at q j ⊢;rw[h,if_neg (by omega)];have v:=s g.1.2 f (k+1) (m+1) (d++[(o,0)]) (y.ts++b) (by rw[n];simp[E.ts]) (by simp[p]) (by omega) (by simp at j ⊢;omega) (by omega);have w:=u g.2 (f - x.ts.length) (k+1+x.ts.length) m (d++((o,0)::x.ts)) b (by rw[n];simp[E.ts]) (by simp[p];omega) (by omega) (by simp at j ⊢;omega) (by omega);rw[show m+2 - 1=m+1 by omega,v,if_neg (by omega),show m+1 - 1=m by omega,w,show k+1+x.ts.length+y.ts.length=k+(x.ts.length+y.ts.length+1) by omega,show f+1 - (x.ts.length+y.ts.length+1)=f - x.ts.length - y.ts.length by omega]
 |ite x y z s u D=>
  intro g c k m d b n p i j q;simp only[E.arOk,Bool.and_eq_true,decide_eq_true_eq]at g;obtain⟨f,rfl,h⟩:=r (t:=(43,0)) (l:=x.ts++(y.ts++z.ts)) n p q (by decide) (by decide) i j 3 Z (by omega);simp only[E.ts,List.length_cons,List.length_append]at q j ⊢;rw[h,if_neg (by omega)];have v:=s g.1.1 f (k+1) (m+2) (d++[(43,0)]) (y.ts++z.ts++b) (by rw[n];simp[E.ts]) (by simp[p]) (by omega) (by simp at j ⊢;omega) (by omega);have w:=u g.1.2 (f - x.ts.length) (k+1+x.ts.length) (m+1) (d++((43,0)::x.ts)) (z.ts++b) (by rw[n];simp[E.ts]) (by simp[p];omega) (by omega) (by simp at j ⊢;omega) (by omega);have G:=D g.2 (f - x.ts.length - y.ts.length) (k+1+x.ts.length+y.ts.length) m (d++((43,0)::(x.ts++y.ts))) b (by rw[n];simp[E.ts]) (by simp[p];omega) (by omega) (by simp at j ⊢;omega) (by omega);rw[show m+3 - 1=m+2 by omega,v,if_neg (by omega),show m+2 - 1=m+1 by omega,w,if_neg (by omega),show m+1 - 1=m by omega,G,show k+1+x.ts.length+y.ts.length+z.ts.length=k+(x.ts.length+(y.ts.length+z.ts.length)+1) by omega,show f+1 - (x.ts.length+(y.ts.length+z.ts.length)+1)=f - x.ts.length - y.ts.length - z.ts.length by omega]
theorem aee (F:Nat) (e:E) (d:e.arOk=true) {T b a:fS} {k:Nat} (f:T=b++(e.ts++a)) (i:b.length=k) (j:T.length<=800) (h:e.ts.length<=F):CO F T (k:Int)=some (((k+e.ts.length:Nat):Int)):=by
 have g:1<=e.ts.length:=by cases e<;>simp[E.ts]
 have c:=congrArg List.length f;simp only[List.length_append]at c;unfold CO BG;rw[if_neg (by omega)];simp only[decide_eq_true_eq];rw[if_neg (by omega)];have:=aaT F T (by omega) e d F k 1 b a f i (by omega) (by simp;omega) h;rw[if_pos Z]at this;exact this
def AU (b:Bool):Int:=if b then 1 else 0
theorem uR (f:Nat) (b:Bool):iZ f b=some (AU b):=by cases b<;>rfl
theorem ER {a:Type} [Inhabited a] {l:List a} {k:Nat} (h:k<l.length):l.take (k+1)=l.take k++[at' l (k:Int)]:=by
 rw[List.take_add_one,List.getElem?_eq_getElem h,gR,List.getD_eq_getElem?_getD,List.getElem?_eq_getElem h];rfl
theorem lO {a:Type} [Inhabited a] {l:List a} {k:Nat} (h:k<l.length):at' l (k:Int)=l[k]:=by
 rw[gR,List.getD_eq_getElem?_getD,List.getElem?_eq_getElem h];rfl
theorem GD {p:Nat->Prop}:∀(n:Nat),p n->∃m,m<=n∧p m∧∀j,j<m->¬p j:=by
 intro n
 induction n using Nat.strongRecOn with
 | _ n ih =>
  intro h;by_cases d:∃m,m<n∧p m
  ·obtain⟨m,e,f⟩:=d;obtain⟨k,a,b,c⟩:=ih m e f;exact⟨k,by omega,b,c⟩
  ·exact⟨n,Nat.le_refl n,h,λj g i=>d ⟨j,g,i⟩⟩
theorem Ua {g:Type} [DecidableEq g]:∀(c b:List g),c.Nodup->(∀x∈c,x∈b)->c.length<=b.length
 | [],b,_,_=>Nat.zero_le _
 |a::c,b,h,hs=>by
  have d:=hs a List.mem_cons_self;have h:=List.nodup_cons.1 h;have:=Ua c (b.erase a) h.2 (λx f=>(List.mem_erase_of_ne (fun(e:x=a)=>h.1 (by rw[<-e];exact f))).2 (hs x (List.mem_cons_of_mem _ f)));rw[List.length_erase_of_mem d]at this;have i:0<b.length:=List.length_pos_of_mem d;simp only[List.length_cons];omega
def nz (x:Int):Bool:=decide (x≠0)
theorem Xl (f:Nat) (l:aS) (h:l.length<f) (e:l.length<=1000):qS f l=some ((l.countP nz:Nat):Int):=by
 unfold qS;have:=eS (step:=rP l) (K:=some ((l.countP nz:Nat):Int)) l.length (λk=>(((l.take k).countP nz:Nat),(k:Int))) (λk b c=>by
  have d:(l.take k).countP nz<=k:=Nat.le_trans List.countP_le_length (by simp;omega);unfold rP uI;dsimp only;rw[if_pos (by omega),cA (by omega),ER c,List.countP_append,fF (by omega),fF (by omega)];by_cases a:at' l (k:Int)=0
  ·rw[if_neg (by simpa using a)];simp[nz,a]
  ·rw[if_pos a];simp[nz,a]) (λb=>by
  unfold rP yZ;dsimp only;rw[if_neg (by omega),List.take_length]) f h
 exact this
theorem Ih (f:Nat) (l:aS) (x:Int) (h:l.length<f) (t:l.length<=1000):r_ f l x=some (decide (x∈l)):=by
 have q:∃i:Int,qE f l x=some i∧(0<=i↔x∈l):=by
  by_cases b:x∈l
  ·obtain⟨i,r,o⟩:=List.mem_iff_getElem.1 b;have a:∃i,i<l.length∧at' l (i:Int)=x∧∀j,j<i->at' l (j:Int)≠x:=by
    obtain⟨m,d,c,s⟩:=GD (p:=λi=>at' l (i:Int)=x) i (by rw[lO r,o]);exact⟨m,by omega,c,s⟩
   obtain⟨i,r,d,c⟩:=a;refine⟨i,?_,iff_of_true (by omega) b⟩
   unfold qE;exact eS (step:=kE l x) (K:=some (i:Int)) i (λk=>(k:Int)) (λk n g=>by
    unfold kE;rw[if_pos (by omega),cA (by omega),if_neg (λe=>c k g e.symm),fF (by omega)]) (λn=>by
    unfold kE;rw[if_pos (by omega),cA (by omega),if_pos d.symm]) f (by omega)
  ·refine⟨-1,?_,iff_of_false (by omega) b⟩
   unfold qE;exact eS (step:=kE l x) (K:=some (-1)) l.length (λk=>(k:Int)) (λk n g=>by
    unfold kE;rw[if_pos (by omega),cA (by omega),if_neg (λe=>b (by rw[e,lO g];exact List.getElem_mem g)),fF (by omega)]) (λn=>by
    unfold kE vJ;rw[if_neg (by omega)]) f h
 obtain⟨i,d,c⟩:=q;unfold r_;rw[bB d];by_cases b:x∈l
 ·rw[decide_eq_true b,decide_eq_true (c.2 b)]
 ·rw[decide_eq_false b,decide_eq_false (λe=>b (c.1 e))]
def qQ (l:aS):Int:=match l.findIdx? nz with
 |some i=>(i:Int)
 |none=> -1
theorem sR {l:aS} {i:Nat} (a:i<l.length) (b:at' l (i:Int)≠0) (c:∀j,j<i->at' l (j:Int)=0):qQ l=i:=by
 have:l.findIdx? nz=some i:=by
  rw[List.findIdx?_eq_some_iff_getElem];refine⟨a,by rw[<-lO a];simpa [nz]using b,λj d=> ?_⟩
  have:=c j d;rw[lO (by omega)]at this;simp[nz,this]
 unfold qQ;rw[this]
theorem BA {l:aS} (h:∀j,j<l.length->at' l (j:Int)=0):qQ l = -1:=by
 have:l.findIdx? nz=none:=by
  rw[List.findIdx?_eq_none_iff];intro x b;obtain⟨i,a,rfl⟩:=List.mem_iff_getElem.1 b;have:=h i a;rw[lO a]at this;simp[nz,this]
 unfold qQ;rw[this]
theorem XK (f:Nat) (l:aS) (h:l.length<f) (t:l.length<=1000):nJ f l (λq=>pA f q)=some (qQ l):=by
 unfold nJ;by_cases a:∃i,i<l.length∧at' l (i:Int)≠0
 ·obtain⟨i,s,o⟩:=a;obtain⟨m,r,n,b⟩:=GD (p:=λi=>at' l (i:Int)≠0) i o;have b:∀j,j<m->at' l (j:Int)=0:=λj d=>Decidable.not_not.1 (b j d);rw[sR (by omega) n b];exact eS (step:=gG l _) (K:=some (m:Int)) m (λk=>(k:Int)) (λk c g=>by
   unfold gG pA;rw[if_pos (by omega),cA (by omega),bB Z,if_neg (by simp[b k g]),fF (by omega)]) (λc=>by
   unfold gG pA;rw[if_pos (by omega),cA (by omega),bB Z,if_pos (by simpa using n)]) f (by omega)
 ·have a:∀j,j<l.length->at' l (j:Int)=0:=λj d=>Decidable.not_not.1 λe=>a ⟨j,d,e⟩;rw[BA a];exact eS (step:=gG l _) (K:=some (-1)) l.length (λk=>(k:Int)) (λk c g=>by
   unfold gG pA;rw[if_pos (by omega),cA (by omega),bB Z,if_neg (by simp[a k g]),fF (by omega)]) (λc=>by
   unfold gG pO;rw[if_neg (by omega)]) f h
def Ai (l:aS):Int:=l.foldl min 1073741824
theorem aeA (f:Nat) (l:aS) (h:l.length<f) (c:l.length<=1000):bI (tM l) f ((1073741824:Int),(0:Int))=some (Ai l):=by
 exact eS (step:=tM l) (K:=some (Ai l)) l.length (λk=>((l.take k).foldl min 1073741824,(k:Int))) (λk a b=>by
  unfold tM;dsimp only;rw[if_pos (by omega),cA (by omega),ER b,List.foldl_append,fF (by omega)];rfl) (λa=>by
  unfold tM AB;dsimp only;rw[if_neg (by omega),List.take_length];rfl) f h
theorem NI {l:aS} {x:Int} (h:x∈l):Ai l<=x:=by
 have c:∀(l:aS) (a:Int),l.foldl min a<=a∧∀x∈l,l.foldl min a<=x:=by
  intro l
  induction l with
  |nil=>intro a;exact⟨Int.le_refl a,λx b=>by cases b⟩
  |cons y l e=>
   intro a;obtain⟨f,d⟩:=e (min a y);refine⟨by simp only[List.foldl_cons];omega,λx b=> ?_⟩
   rcases List.mem_cons.1 b with rfl|b
   ·simp only[List.foldl_cons];omega
   ·exact d x b
 exact(c l _).2 x h
theorem Kx (l:aS):Ai l=1073741824∨Ai l∈l:=by
 have b:∀(l:aS) (a:Int),l.foldl min a=a∨l.foldl min a∈l:=by
  intro l
  induction l with
  |nil=>intro a;exact .inl Z
  | cons y l ih =>
   intro a;rcases ih (min a y)with h|h
   ·simp only[List.foldl_cons,h];rcases Int.le_total a y with q|q
    ·left;omega
    ·right;rw[show min a y=y by omega];exact List.mem_cons_self
   ·right;exact List.mem_cons_of_mem _ h
 exact b l _
def PH (l:aS):Nat->Nat->Nat
 |0,k=>k
 |f+1,k=>if((k:Nat):Int)∈l then PH l f (k+1)else k
def Sr (l:aS):Nat:=PH l (l.length+1) 0
theorem Yu (l:aS):((Sr l:Nat):Int)∉l∧(∀j,j<Sr l->((j:Nat):Int)∈l)∧Sr l<=l.length:=by
 have key:∀(f k:Nat),(∀j,j<k->((j:Nat):Int)∈l)->(∀j,j<PH l f k->((j:Nat):Int)∈l)∧(PH l f k=k+f∨((PH l f k:Nat):Int)∉l):=by
  intro f
  induction f with
  |zero=>intro k h;exact⟨h,.inl Z⟩
  | succ f ih =>
   intro k h;by_cases hk:((k:Nat):Int)∈l
   ·have:=ih (k+1) (λj hj=>by
     rcases Nat.lt_or_ge j k with q|q
     ·exact h j q
     ·rw[show j=k by omega];exact hk)
    simp only[PH,if_pos hk];exact⟨this.1,this.2.imp (λe=>by omega) id⟩
   ·simp only[PH,if_neg hk];exact⟨h,.inr hk⟩
 have hle:∀m,(∀j,j<m->((j:Nat):Int)∈l)->m<=l.length:=λm h=>by
  have:=Ua ((List.range m).map λj=>((j:Nat):Int)) l (by
   rw[List.nodup_iff_pairwise_ne,List.pairwise_map];exact(List.nodup_iff_pairwise_ne.1 List.nodup_range).imp (λh e=>h (by omega))) (λx hx=>by
   obtain⟨j,hj,rfl⟩:=List.mem_map.1 hx;exact h j (List.mem_range.1 hj))
  simpa using this
 obtain⟨h1,h2⟩:=key (l.length+1) 0 (λj hj=>by omega);have h3:=hle _ h1;refine⟨?_,h1,h3⟩
 rcases h2 with h2|h2
 ·have:PH l (l.length+1) 0<=l.length:=h3;omega
 ·exact h2
theorem aez (f:Nat) (l:aS) (h:l.length+2<f) (hl:l.length<=900):A_ f l=some ((Sr l:Nat):Int):=by
 obtain⟨h1,h2,h3⟩:=Yu l;unfold A_;exact eS (step:=zR f l) (K:=some ((Sr l:Nat):Int)) (Sr l) (λk=>(k:Int)) (λk ag hk=>by
  unfold zR;rw[bB (Ih f l (k:Int) (by omega) (by omega)),if_pos (by simpa using h2 k hk),fF (by omega)]) (λag=>by
  unfold zR Bz;rw[bB (Ih f l _ (by omega) (by omega)),if_neg (by simpa using h1)]) f (by omega)
def abY (l:aS):Int:=l.foldl (λa x=>wI .i64 (a+x)) 0
theorem aeX (f:Nat) (l:aS) (h:l.length<f) (c:l.length<=1000):bI (tO f l) f ((0:Int),(0:Int))=CF f (abY l):=by
 refine(eS (step:=tO f l) l.length (λk=>(abY (l.take k),(k:Int))) (λk a b=> ?_) (λa=> ?_) f h).trans Z
 ·unfold tO;dsimp only;rw[if_pos (by omega),cA (by omega),fF (by omega),ER b];unfold abY;rw[List.foldl_append];rfl
 ·unfold tO;dsimp only;rw[if_neg (by omega),List.take_length]
def TK (o:Int) (l:aS):Int:=
 if o=20 then AU (l.all nz)else if o=21 then AU (l.any nz)else if o=22 then((l.countP nz:Nat):Int)else if o=23 then qQ l else if o=24 then Ai l else if o=26 then max (-1073741824) (min (abY l) 1073741824)else((Sr l:Nat):Int)
theorem abc (f:Nat) (o:Int) (l:aS) (hf:40<=f) (hl:l.length<=24) (ho:o=20∨o=21∨o=22∨o=23∨o=24∨o=26∨o=27):BB f o l=some (TK o l):=by
 have hc:=Xl f l (by omega) (by omega);unfold BB;rcases ho with rfl|rfl|rfl|rfl|rfl|rfl|rfl
 ·rw[if_pos Z,bB hc,bB (uR f _),TK,if_pos Z];have:(decide (((l.countP nz:Nat):Int)=(l.length:Int)))=l.all nz:=by
   rw[Bool.eq_iff_iff];simp[List.countP_eq_length,Int.ofNat_inj]
  rw[this]
 ·rw[if_neg (by decide),if_pos Z,bB hc,bB (uR f _),TK,if_neg (by decide),if_pos Z];have:(decide ((0:Int)<((l.countP nz:Nat):Int)))=l.any nz:=by
   rw[Bool.eq_iff_iff,decide_eq_true_eq,List.any_eq_true,show((0:Int)<((l.countP nz:Nat):Int))↔0<l.countP nz by omega,List.countP_pos_iff]
  rw[this]
 ·rw[if_neg (by decide),if_neg (by decide),if_pos Z,bB hc];rfl
 ·rw[if_neg (by decide),if_neg (by decide),if_neg (by decide),if_pos Z,bB (XK f l (by omega) (by omega))];rfl
 ·rw[if_neg (by decide),if_neg (by decide),if_neg (by decide),if_neg (by decide),if_pos Z,aeA f l (by omega) (by omega)];rfl
 ·rw[if_neg (by decide),if_neg (by decide),if_neg (by decide),if_neg (by decide),if_neg (by decide),if_neg (by decide),if_pos Z,aeX f l (by omega) (by omega)];rfl
 ·rw[if_neg (by decide),if_neg (by decide),if_neg (by decide),if_neg (by decide),if_neg (by decide),if_neg (by decide),if_neg (by decide),if_pos Z,bB (aez f l (by omega) (by omega))];rfl
end Go.Proofs.YtmdlcmbplnhdnaaGreatDoor
namespace Go.Proofs.YtmdlcmbplnhdnaaGreatDoor
open Go.Sx
def vM  (a:bG):Option bG:=
 some (a)
def Ap (a:bG×Int) (c:(bG×Int)->Option bG) (b:aS):Option bG:=
 ck ((List.length a.1:Int)+(List.length ([b]):Int)<=1099511627) (c ((a.1++[b]),(wI .i64 (a.2+(1:Int)))))
def oL (U:Nat) (g:Ix) (h:aS) (e:bG×Int) (a:aS×Int) (c:(aS×Int)->Option bG) (b:fU):Option bG:=
 Option.bind (sW U h (wI .i64 ((wI .i64 (e.2*(List.length g:Int)))+a.2))) λf=>(Option.bind (iD U f (wI .i64 ((wI .i64 (b.2 - b.1))+(1:Int)))) λd=>(ck ((List.length a.1:Int)+(List.length ([(wI .i64 (b.1+d))]):Int)<=1099511627) (c ((a.1++([(wI .i64 (b.1+d))])),(wI .i64 (a.2+(1:Int)))))))
def oM (U:Nat) (f:cF) (c:Ix) (g:aS) (h:Int) (b:bG×Int) (e:(bG×Int)->Option bG) (a:aS×Int) (d:(aS×Int)->Option bG):Option bG:=
 if a.2<(List.length c:Int)then(ck (0<=a.2∧a.2<(List.length c:Int)) (ck (0<=a.2∧a.2<(List.length c:Int)) (ck (0<=a.2∧a.2<(List.length c:Int)) (ck (0<=a.2∧a.2<(List.length c:Int)) (ck (0<=a.2∧a.2<(List.length c:Int)) (if((at' c a.2).2.1)=(2:Int)then(oL U c g b a d ((0:Int),(1:Int)))else(if((at' c a.2).2.1)=(3:Int)then(ck (0<=b.2∧b.2<(List.length f.2:Int)) (oL U c g b a d ((-1:Int),(wI .i64 ((List.length (at' f.2 b.2):Int) - (1:Int))))))else(oL U c g b a d (((at' c a.2).2.2.1),(wI .i64 ((wI .i64 (((at' c a.2).2.2.2.1)+(wI .i64 (((at' c a.2).2.2.2.2.1)*(List.length f.2:Int)))))+(wI .i64 (((at' c a.2).2.2.2.2.2)*h)))))))))))))else(Ap b e (a.1))
def kG (U:Nat) (c:cF) (e:Ix) (f:aS) (d:Int) (a:bG×Int) (b:(bG×Int)->Option bG):Option bG:=
 if a.2<(List.length c.2:Int)then(bI (oM U c e f d a b) U (([]:aS),(0:Int)))else(vM  (a.1))
def rJ (U:Nat) (b:cF) (c:Ix) (d:aS) (a:Int):Option bG:=
 bI (kG U b c d a) U (([]:bG),(0:Int))
def vN (U:Nat) (c:cF) (d:Ix) (e:aS) (a:fU) (b:jC->Option bG):Option bG:=
 if a.2<(List.length c.2:Int)then(ck (0<=a.2∧a.2<(List.length c.1:Int)) (b ((max a.1 (at' c.1 a.2)),(wI .i64 (a.2+(1:Int))))))else(rJ U c d e (a.1))
def nK (U:Nat) (a:cF) (b:Ix) (c:aS):Option bG:=
 bI (vN U a b c) U ((0:Int),(0:Int))
theorem adg:aV Tryz.prog 11:=Tryz.call11
theorem KX (U:Nat) {g:cF} {n:Ix} {s:aS} (v:Value)  (w:Value)  (z2:kH)  (F:Value)  (y:Value) (r:bG) (h:nK U g n s=some r):
  aX Tryz.prog 11 #[Value.agg #[v,w],F,y] [Sl bP v g.1,S2 a_ w z2 g.2,Sl aQ F n,Sl bP y s] (λx:Lc=>x.1) (λx l=>Ar cZ.raw x.1 x.2::lD b_ x.2 r::l) (λ_ l=>l):=by
 refine aX.of Tryz.func11 Z Tryz.ntmps11 Z λc=>?_;unfold nK at h;refine aW<|aG (aN.box (cs:=[v,w]) Z Z) Z λp=>aC Z<|aM<|aW<|bU Z<|dK 0 Z<|aB (iY Z (aE.fact 1 Z) Z) Z<|aC Z<|aC Z<|aM<|aK<|eD (λk=>rJ U g n s k=some r) (λk b4=>[(1,F),(2,y),(3,vP p),(7,vI (List.length g.2:Int)),(8,vI (k))]) (λk b4=>[bV p [v,w] 29]) ?_ ?_
 ·refine aW<|aC Z<|aM<|aT<|dZ (vN U g n s) (λi J=>[(1,F),(2,y),(3,vP p),(7,vI (List.length g.2:Int)),(8,vI (i.1)),(9,vI (i.2))]) (λi J=>[bV p [v,w] 29]) ((0:Int),(0:Int)) () h SF (aY.refl _) ?_;intro ac i J h;refine aK<|aW<|aA Z<|aA Z<|cO Z<|aM ?_;refine fE h Z (λh=>?_) λh=>?_
  ·refine cK<|aK<|aT<|aO<|aA Z<|bU Z<|dK 0 Z<|aA Z<|dD h λQ h=>aB (aZ Z Z (aE.fact 0 Z) Z Z Q) Z<|aB (bX Z (aE.fact 0 Z) Z Z Z dG Q) Z<|aB (Ie Z Z) Z<|aC Z<|eT<|mQ<|aO<|aA Z<|cI Z<|aC Z<|aM ?_;exact yX ((max i.1 (at' g.1 i.2)),(wI .i64 (i.2+(1:Int)))) () h SF Z
  refine fH ?_;exact gM (i.1) () h SF Z
 intro k b4 h;unfold rJ at h;refine aW<|aC Z<|aM<|aK<|Ch (B:=Lc) (λH=>vM  H=some r) (λH A=>[(10,A.1)]) (λH A=>[Ar cZ.raw A.1 A.2,lD b_ A.2 H]) ?_ ?_
 ·refine aW<|aC Z<|aM<|aT<|i_ (f_ cZ.raw) (i_ (DG b_) ?_);refine dZ (B:=Lc) (kG U g n s k) (λb a=>[(1,F),(2,y),(3,vP p),(7,vI (List.length g.2:Int)),(8,vI (k)),(10,a.1),(11,vI (b.2))]) (λb a=>[bV p [v,w] 29,Ar cZ.raw a.1 a.2,lD b_ a.2 b.1]) (([]:bG),(0:Int)) ((lF),([]:fR)) h SF (aY.ix [2,1,0] Z Z) ?_;intro G b a h;refine aK<|aW<|aA Z<|aA Z<|cO Z<|aM ?_;refine fE h Z (λh=>?_) λh=>?_
  ·refine cK<|aK<|aT<|aW<|aC Z<|aM<|aK<|Ch (B:=Value) (λo=>Ap b (bI (kG U g n s k) G) o=some r) (λo j=>[(1,F),(2,y),(3,vP p),(7,vI (List.length g.2:Int)),(8,vI (k)),(10,a.1),(11,vI (b.2)),(12,j)]) (λo j=>[bV p [v,w] 29,Ar cZ.raw a.1 a.2,lD b_ a.2 b.1,Ar b_ j o]) ?_ ?_
   ·refine aW<|aC Z<|aM<|aT<|i_ (f_ b_)<|dZ (B:=Value) (oM U g n s k b (bI (kG U g n s k) G)) (λd m=>[(1,F),(2,y),(3,vP p),(7,vI (List.length g.2:Int)),(8,vI (k)),(10,a.1),(11,vI (b.2)),(12,m),(13,vI (d.2))]) (λd m=>[bV p [v,w] 29,Ar cZ.raw a.1 a.2,lD b_ a.2 b.1,Ar b_ m d.1]) (([]:aS),(0:Int)) (lF) h SF (aY.ix [1,2,3,0] Z Z) ?_;intro S d m h;refine aK<|aW<|aA Z<|aA Z<|jB (aE.fact 2 Z) Z<|cO Z<|aM ?_;refine fE h Z (λh=>?_) λh=>?_
    ·refine cK<|aK<|aT<|aK ?_;refine JR.start [0,0,3,7,15,0,0,96,224,480,0,0,3072,7168,15360,0,64512,131040,0,0,786432,1835008,3932160,0,16515072,33554400,31,134217727] 27 mixedOrders (by decide +kernel) ?_;refine JR.open (by exact rfl) ?_;refine bF Z<|bF Z<|dD h λL h=>bK Z .nil (lC 2 Z) (aZ Z Z (aE.fact 0 Z) Z Z L) aL.z<|iW Z (gA Z Z Z Z Z)<|bK Z .nil (lC 2 Z) (jQ Z (aE.fact 0 Z) Z Z Z Dn L) aL.z<|bF Z<|bF Z<|dD h λM h=>bK Z .nil (lC 2 Z) (aZ Z Z (aE.fact 0 Z) Z Z M) aL.z<|iW Z (gA Z Z Z Z Z)<|bK Z .nil (lC 2 Z) (jQ Z (aE.fact 0 Z) Z Z Z Do M) aL.z<|bF Z<|bF Z<|dD h λN h=>bK Z .nil (lC 2 Z) (aZ Z Z (aE.fact 0 Z) Z Z N) aL.z<|iW Z (gA Z Z Z Z Z)<|bK Z .nil (lC 2 Z) (jQ Z (aE.fact 0 Z) Z Z Z Dp N) aL.z<|bF Z<|iW Z (AT Z Z)<|iW Z (Aa Z Z)<|bF Z<|bF Z<|dD h λO h=>bK Z .nil (lC 2 Z) (aZ Z Z (aE.fact 0 Z) Z Z O) aL.z<|iW Z (gA Z Z Z Z Z)<|bK Z .nil (lC 2 Z) (jQ Z (aE.fact 0 Z) Z Z Z Dq O) aL.z<|bF Z<|iW Z (AT Z Z)<|iW Z (Aa Z Z)<|iW Z (oQ Z)<|bM 27 Z Z<|aC Z<|aM<|aK<|eD (λf=>oL U n s b d (bI (oM U g n s k b (bI (kG U g n s k) G)) S) f=some r) (λf I=>[(1,F),(2,y),(3,vP p),(7,vI (List.length g.2:Int)),(8,vI (k)),(10,a.1),(11,vI (b.2)),(12,m),(13,vI (d.2)),(14,vI (f.1)),(15,vI (f.2))]) (λf I=>[bV p [v,w] 29,Ar cZ.raw a.1 a.2,lD b_ a.2 b.1,Ar b_ m d.1]) ?_ ?_
     ·refine aW<|aA Z<|aA Z<|dD h λP h=>aB (aZ Z Z (aE.fact 2 Z) Z Z P) Z<|aB (gA Z Z Z Z Z) Z<|aB (jQ Z (aE.fact 2 Z) Z Z Z yF P) Z<|aM<|aT<|aW<|cP Z<|aC Z<|aM ?_;refine fE h Z (λh=>?_) λh=>?_
      ·refine aO<|aC Z<|aC Z<|eT<|mQ ?_;exact gM ((0:Int),(1:Int)) () h SF Z
      refine aW<|cP Z<|aC Z<|aM ?_;refine fE h Z (λh=>?_) λh=>?_
      ·refine JR.start [0,1,0,7,15,31,63,0,255] 8 mixedOrders (by decide +kernel) ?_;refine JR.open (by exact rfl) ?_;refine cY Z<|iS 0 Z<|bF Z<|dD h λu h=>bK Z .nil (lC 1 Z) (cH Z Z (aE.fact 0 Z) Z Z u) aL.z<|bK Z .nil (lC 1 Z) (cG Z (aE.fact 0 Z) Z Z u) aL.z<|bK Z .nil (lC 1 Z) (gW Z (aE.el (aE.fact 0 Z) u.1 u.2) Z) aL.z<|iW Z (oC Z Z)<|iW Z (oQ Z)<|bM 8 Z Z<|aC Z<|eT<|mQ ?_;exact gM ((-1:Int),(wI .i64 ((List.length (at' g.2 b.2):Int) - (1:Int)))) () h SF Z
      refine dW<|mQ ?_;exact gM (((at' n d.2).2.2.1),(wI .i64 ((wI .i64 (((at' n d.2).2.2.2.1)+(wI .i64 (((at' n d.2).2.2.2.2.1)*(List.length g.2:Int)))))+(wI .i64 (((at' n d.2).2.2.2.2.2)*k))))) () h SF Z
     intro f I h;refine aO<|aA Z<|aA Z<|aA Z<|aA Z<|aA Z<|jB (aE.fact 2 Z) Z<|aB (AT Z Z) Z<|aA Z<|cI Z<|eX h λW aa h=>aG (aN.callQ JJ (Bo U y W aa) Z (n_ [3] Z)) Z λaf=>aA Z<|aA Z<|aB (oC Z Z) Z<|cI Z<|eX h λt ab h=>aG (aN.callQ DN (lV U  t ab) Z .nil) Z λag=>cI Z<|aG (bY (e:=b_) ([(wI .i64 (f.1+t))]) [(0,vI (wI .i64 (f.1+t)))] Z Z Z Z (lR (vI (wI .i64 (f.1+t))) Z) Z Z Z) Z λae=>dD h λR h=>aG (eN 4 dY Z Z Z (bE (aE.res 0 Z) dY) Z Z Z Z R Z) Z λY=>aC Z<|eT<|mQ<|aO<|aA Z<|cI Z<|aC Z<|aM ?_;exact lK ((d.1++([(wI .i64 (f.1+t))])),(wI .i64 (d.2+(1:Int)))) (Y) h SF (aY.ix [1,2,3,4] Z Z) (aF.refl _ _)
    refine fH ?_;exact gM (d.1) (m) h SF Z
   intro o j h;refine aO<|aA Z<|aA Z<|i_ (DG b_)<|cD (Know.one ((bE (aE.res 4 Z) dY))) λE=>i_ (Rn 0 4 Z Z Z) ?_;refine aG (bY (e:=cZ.raw) [j] [(0,j)] Z Z Z Z (lR (j) E) Z Z (by simp[cellsOf,cZ.raw,E])) Z λad=>?_;refine cD (dJ 4 Z) λC=>cD (dJ 1 Z) λD=>dD h λK h=>i_ (ON 4 1 Z Z Z) ?_;refine aG (aN.append 2 0 Z Z Z Z Z Z Z (by have q:=K;have T:=C;have V:=D;(try simp only[List.length_cons,List.length_nil]at q T V ⊢);omega) (by have q:=K;have T:=C;have V:=D;(try simp only[List.length_cons,List.length_nil]at q T V ⊢);omega) Z) Z λX=>?_;refine aC Z<|eT<|mQ<|aO<|aA Z<|cI Z<|aC Z<|aM ?_;exact lK ((b.1++[o]),(wI .i64 (b.2+(1:Int)))) (X,(a.2++[j])) h SF (aY.ix [1,2,3] Z Z) (aF.refl _ _)
  refine fH ?_;exact cL (b.1) (a.1,a.2) h SF (aY.ix [1,2] Z Z) (aF.refl _ _)
 intro H A h;unfold vM at h;refine aW<|aA Z<|aC Z<|aM<|aU ?_;cases h;exact fV (A.1,A.2) Z Z (RV.tmp Z) (aY.refl _) aF.nil
def tZ (b:cF) (a:fP):Option tX:=
 some ((b.1,a))
def mF (U:Nat) (b:Dw) (d:cF) (a:Int×fP) (c:(Int×fP)->Option tX) (e:Bool):Option tX:=
 if e=true then(ck (0<=a.1∧a.1<(List.length b.2.1:Int)) (Option.bind (iD U (at' b.2.1 a.1) (List.length d.2:Int)) λf=>(ck (0<=(wI .i64 (a.1+(1:Int)))∧(wI .i64 (a.1+(1:Int)))<(List.length b.2.1:Int)) (Option.bind (iD U (at' b.2.1 (wI .i64 (a.1+(1:Int)))) (List.length d.2:Int)) λg=>(Option.bind (sW U b.2.2.1 a.1) λh=>(Option.bind (iD U h (15:Int)) λi=>(Option.bind (nE U ((b.1,b.2.1,b.2.2.1,b.2.2.2.1,b.2.2.2.2.1,b.2.2.2.2.2)) ((d.1,a.2)) f g (wI .i64 ((1:Int)+i))) λj=>(c ((wI .i64 (a.1+(2:Int))),j)))))))))else(tZ d (a.2))
def pI (U:Nat) (c:Dw) (d:cF) (a:Int×fP) (b:(Int×fP)->Option tX):Option tX:=
 if(wI .i64 (a.1+(1:Int)))<(List.length c.2.1:Int)then(mF U c d a b (decide (a.1<(60:Int))))else(mF U c d a b (false))
def nF (U:Nat) (b:Dw) (a:cF):Option tX:=
 bI (pI U b a) U ((List.length a.2:Int),a.2)
theorem adm:aV Tryz.prog 25:=Tryz.call25
theorem FU (U:Nat) {a:Dw} {e:cF} (n:Value)  (m:Value)  (o:Value)  (f:Value)  (g:Value)  (O:fR) (r:(aS×fP)) (h:nF U a e=some r):
  Fz Tryz.prog 25 #[Value.agg #[vI (a.1),n,m,o,vB (a.2.2.2.2.1),vB (a.2.2.2.2.2)],Value.agg #[f,g]] [Ar b_ f e.1,Ar cZ.raw g O,lD cB O e.2] [Sl bP n a.2.1,Sl bP m a.2.2.1,Sl bP o a.2.2.2.1] (λx:Value×Value×List Value=>Value.agg #[x.1,x.2.1]) (λx l=>Ar b_ x.1 r.1::Ar cZ.raw x.2.1 x.2.2::lD cB x.2.2 r.2::l):=by
 refine Fz.of (vs:=[Value.agg #[vI (a.1),n,m,o,vB (a.2.2.2.2.1),vB (a.2.2.2.2.2)],Value.agg #[f,g]]) Tryz.func25 Z Tryz.ntmps25 Z λc=>?_;unfold nF at h;refine aW<|aG (aN.box (cs:=[vI (a.1),n,m,o,vB (a.2.2.2.2.1),vB (a.2.2.2.2.2)]) Z Z) Z λv=>aG (aN.box (cs:=[f,g]) Z Z) Z λq=>aG (aN.alloc (cs:=[lF,lF]) Z Z) Z λs=>aM<|aW<|bU Z<|dK 1 Z<|aB (iY Z (bT (i:=4) (j:=5) Z Z bR) Z) Z<|aC Z<|aM<|aK<|BH (B:=fR) (λt=>tZ e t=some r) (λt u=>[(3,vP q),(4,vP s)]) (λt u=>[bV s [lF,lF] 29,bV q [f,g] 29,Ar b_ f e.1,Ar cZ.raw g u,lD cB u t]) (λt u=>[Sl bP n a.2.1,Sl bP m a.2.2.1,Sl bP o a.2.2.2.1]) ?_ ?_
 ·refine aW<|aA Z<|aC Z<|aM<|aT<|Ge (B:=fR) (pI U a e) (λb d=>[(2,vP v),(3,vP q),(4,vP s),(5,vI (List.length e.2:Int)),(6,vI (b.1))]) (λb d=>[bV s [lF,lF] 29,bV q [f,g] 29,bV v [vI (a.1),n,m,o,vB (a.2.2.2.2.1),vB (a.2.2.2.2.2)] 24,Ar b_ f e.1,Ar cZ.raw g d,lD cB d b.2]) (λb d=>[Sl bP n a.2.1,Sl bP m a.2.2.1,Sl bP o a.2.2.2.1]) ((List.length e.2:Int),e.2) (O) h SF (aY.refl _) (aF.refl _ _) ?_;intro J b d h;refine aK<|aK<|BH (B:=Unit) (λk=>mF U a e b (bI (pI U a e) J) k=some r) (λk p=>[(2,vP v),(3,vP q),(4,vP s),(5,vI (List.length e.2:Int)),(6,vI (b.1)),(20,vB (k))]) (λk p=>[bV s [lF,lF] 29,bV q [f,g] 29,bV v [vI (a.1),n,m,o,vB (a.2.2.2.2.1),vB (a.2.2.2.2.2)] 24,Ar b_ f e.1,Ar cZ.raw g d,lD cB d b.2]) (λk p=>[Sl bP n a.2.1,Sl bP m a.2.2.1,Sl bP o a.2.2.2.1]) ?_ ?_
  ·refine aO<|aA Z<|cI Z<|bU Z<|dK 2 Z<|jB (aE.fact 0 Z) Z<|cO Z<|aA Z ?_;refine Dy h Z (λ_ h=>?_) λ_ h=>?_
   ·refine cR Z<|aP Z (Gq Z Z) Z<|dO Z<|aM ?_;exact gM (decide (b.1<(60:Int))) () h SF Z
   refine aH Z<|aH Z<|fI Z<|aM ?_;exact gM (false) () h SF Z
  intro k p h;refine Ab h Z (λ_ h=>?_) λ_ h=>?_
  ·refine cK<|aK<|aT ?_;refine JR.start [0,0,0,4,0,28,60,0,252,0,512,0,2048,7680,15872,0,65532,0,131072,0,1048572,2097148,4194300,8388607] 23 mixedOrders (by decide +kernel) ?_;refine JR.open (by exact rfl) ?_;refine mA 2 Z<|mA 1 Z<|cY Z<|iS 2 Z<|bF Z<|dD h λE h=>bK Z .nil (lC 0 Z) (aZ Z Z (aE.fact 0 Z) Z Z E) aL.z<|bK Z .nil (lC 0 Z) (bX Z (aE.fact 0 Z) Z Z Z dG E) aL.z<|bF Z<|eX h λK w h=>JR.loud Z Z Z (aN.callQ DN (lV U  K w) Z .nil) Z (λP=>(t_ [([1],[]),([2],[])] Z)) λP=>iW Z (dC Z Z Z Z Z)<|bK Z (aY.cons 2 Z .nil) .nil (eG 0 Z Z Z Z Z) (aL.h (aY.ix [2] Z Z) .nil aL.z)<|iW Z (gH Z)<|iW Z (Aa Z Z)<|dD h λF h=>bK Z .nil (lC 0 Z) (aZ Z Z (aE.fact 0 Z) Z Z F) (aL.h .nil (lC 0 Z) aL.z)<|bK Z .nil (lC 0 Z) (bX Z (aE.fact 0 Z) Z Z Z dG F) (aL.h .nil (lC 0 Z) aL.z)<|iW Z (gH Z)<|eX h λL y h=>JR.loud Z Z Z (aN.callQ DN (lV U  L y) Z .nil) Z (λQ=>(t_ [([1],[]),([2],[])] Z)) λQ=>iW Z (dC Z Z Z Z Z)<|bK Z (aY.cons 2 Z .nil) .nil (eG 0 Z Z Z Z Z) (aL.h (aY.ix [2] Z Z) .nil (aL.h (aY.ix [2] Z Z) .nil aL.z))<|iW Z (gH Z)<|eX h λM A h=>JR.loud Z Z Z (aN.callQ JJ (Bo U m M A) Z (n_ [1] Z)) Z (λR=>(t_ [([1],[]),([2],[])] Z)) λR=>eX h λN C h=>JR.loud Z Z Z (aN.callQ DN (lV U  N C) Z .nil) Z (λS=>(t_ [([1],[]),([2],[])] Z)) λS=>iW Z (Aa Z Z)<|bM 23 Z Z<|eX h λG D h=>aG (Fy (Min:=[Ar cZ.raw g d,lD cB d b.2]) (Mr:=[bV s [lF,lF] 29,bV q [f,g] 29,bV v [vI (a.1),n,m,o,vB (a.2.2.2.2.1),vB (a.2.2.2.2.2)] 24,Ar b_ f e.1]) WY (Bh U n m o f g d G D) Z (aY.ix [4,5,0,1,2,3] Z Z) (aF.cons (aE.fact 0 Z) (aF.cons (aE.fact 1 Z) (aF.cons (aE.fact 2 Z) (aF.cons (bE (aE.res 3 Z) dY) .nil)))) (λ_ _=>rfl)) Z λT=>eT<|mQ<|aO<|aA Z<|cI Z<|aC Z<|aM ?_;exact lK ((wI .i64 (b.1+(2:Int))),G) (T) h SF (aY.ix [2,3,4,5,0,1] Z Z) (aF.refl _ _)
  refine fH ?_;exact cL (b.2) (d) h SF (aY.ix [0,1,3,4,5] Z Z) (aF.refl _ _)
 intro t u h;unfold tZ at h;refine aW<|dV 1 Z<|cD (Know.one ((bE (aE.res 2 Z) dY))) λH=>cD (Know.one (aE.sl (bT (i:=3) (j:=4) Z Z bR))) λI=>bQ 0 (vs:=[f,g]) Z Z (lH H (lH I Z)) Z Z Z<|aM<|aU ?_;cases h;exact fV (f,g,u) Z Z (RV.cell 0 Z Z Z Z) (aY.ix [2,3,4] Z Z) aF.nil
def sA  (a:Int):Option (Int):=
 some (a)
def xR (b:aS) (a:fU) (c:jC->Option (Int)):Option (Int):=
 if a.2<(List.length b:Int)then(ck (0<=a.2∧a.2<(List.length b:Int)) (if(at' b a.2)<(0:Int)then(some (-1:Int))else(ck (0<=a.2∧a.2<(List.length b:Int)) (c ((max a.1 (at' b a.2)),(wI .i64 (a.2+(1:Int))))))))else(sA  (a.1))
def mS (U:Nat) (a:aS):Option (Int):=
 bI (xR a) U ((-1:Int),(0:Int))
theorem WU:aV Tryz.prog 27:=Tryz.call27
theorem Cm (U:Nat) {f:aS} (g:Value) (r:Int) (h:mS U f=some r):
  aX Tryz.prog 27 #[g] [Sl bP g f] (λx:Unit=>vI (r)) (λx l=>l) (λ_ l=>l):=by
 refine aX.of Tryz.func27 Z Tryz.ntmps27 Z λc=>?_;unfold mS at h;refine aW<|aC Z<|aM<|aW<|aC Z<|aM<|aK<|eD (λb=>sA  b=some r) (λb i=>[(3,vI (b))]) (λb i=>[]) ?_ ?_
 ·refine aW<|aC Z<|aM<|aT<|dZ (xR f) (λa j=>[(0,g),(3,vI (a.1)),(4,vI (a.2))]) (λa j=>[]) ((-1:Int),(0:Int)) () h SF (aY.refl _) ?_;intro k a j h;refine aK<|aW<|aA Z<|aA Z<|jB (aE.fact 0 Z) Z<|cO Z<|aM ?_;refine fE h Z (λh=>?_) λh=>?_
  ·refine cK<|aK<|aT<|aK<|aW<|aA Z<|aA Z<|dD h λd h=>aB (aZ Z Z (aE.fact 0 Z) Z Z d) Z<|aB (bX Z (aE.fact 0 Z) Z Z Z dG d) Z<|cO Z<|aM ?_;refine fE h Z (λh=>?_) λh=>?_
   ·refine aW<|aC Z<|aM<|aU<|aI<|bL<|aI<|aI<|bL<|aI ?_;cases h;exact kV Z
   refine cK<|aO<|aA Z<|aA Z<|aA Z<|dD h λe h=>aB (aZ Z Z (aE.fact 0 Z) Z Z e) Z<|aB (bX Z (aE.fact 0 Z) Z Z Z dG e) Z<|aB (Ie Z Z) Z<|aC Z<|eT<|mQ<|aO<|aA Z<|cI Z<|aC Z<|aM ?_;exact yX ((max a.1 (at' f a.2)),(wI .i64 (a.2+(1:Int)))) () h SF Z
  refine fH ?_;exact gM (a.1) () h SF Z
 intro b i h;unfold sA at h;refine aW<|aA Z<|aC Z<|aM<|aU ?_;cases h;exact kV Z
def zW  (a:Bool):Option (Bool):=
 some (a)
def sV (U:Nat) (a:Int) (b:Int) (c:Int):Option (Bool):=
 if b<=a then(zW  (decide (a<=c)))else(zW  (false))
theorem JK:aV Tryz.prog 49:=Tryz.call49
theorem Bn (U:Nat) {b:Int} {f:Int} {d:Int} (r:Bool) (h:sV U b f d=some r):
  aX Tryz.prog 49 #[vI (b),vI (f),vI (d)] [] (λx:Unit=>vB (r)) (λx l=>l) (λ_ l=>l):=by
 refine aX.of Tryz.func49 Z Tryz.ntmps49 Z λc=>?_;refine aW<|aC Z<|aM<|aK<|eD (λa=>zW  a=some r) (λa e=>[(6,vB (a))]) (λa e=>[]) ?_ ?_
 ·refine aO<|aA Z<|aA Z<|aB (B_ Z Z) Z<|aA Z ?_;refine Dy h Z (λ_ h=>?_) λ_ h=>?_
  ·refine cR Z<|cR Z<|aP Z (Ca Z Z) Z<|dO Z<|aC Z<|aM ?_;exact gM (decide (b<=d)) () h SF Z
  refine aH Z<|aH Z<|aH Z<|fI Z<|aC Z<|aM ?_;exact gM (false) () h SF Z
 intro a e h;unfold zW at h;refine aU ?_;cases h;exact kV Z
def pM  (a:Unit):Option (Bool):=
 some (true)
def pN (b:Int) (a:(Int)->Option (Bool)) (c:Unit):Option (Bool):=
 a (wI .i64 (b+(1:Int)))
def iO (d:fS) (b:Int) (e:(Int)->Option (Bool)) (a:Int) (c:(Int)->Option (Bool)):Option (Bool):=
 if a<b then(ck (0<=a∧a<(List.length d:Int)) (ck (0<=b∧b<(List.length d:Int)) (if((at' d a).1)=((at' d b).1)then(some (false))else(c (wI .i64 (a+(1:Int)))))))else(pN b e (()))
def kB (U:Nat) (d:fS) (c:Int) (b:(Int)->Option (Bool)) (a:Bool):Option (Bool):=
 if a=true then(some (false))else(bI (iO d c b) U (0:Int))
def gF (U:Nat) (b:fS) (f:Int) (g:Int) (a:Int) (c:(Int)->Option (Bool)):Option (Bool):=
 if a<(List.length b:Int)then(ck (0<=a∧a<(List.length b:Int)) (Option.bind (sV U ((at' b a).1) (0:Int) (wI .i64 (g - (1:Int)))) λd=>(if(!d)=true then(kB U b a c (true))else(ck (0<=a∧a<(List.length b:Int)) (if((at' b a).1)=f then(kB U b a c (true))else(ck (0<=a∧a<(List.length b:Int)) (Option.bind (sV U ((at' b a).2) (1:Int) (15:Int)) λe=>(kB U b a c ((!e))))))))))else(pM  (()))
def lA (U:Nat) (a:fS) (b:Int) (c:Int):Option (Bool):=
 bI (gF U a b c) U (0:Int)
theorem adH:aV Tryz.prog 76:=Tryz.call76
theorem FW (U:Nat) {i:fS} {e:Int} {f:Int} (j:Value) (r:Bool) (h:lA U i e f=some r):
  aX Tryz.prog 76 #[j,vI (e),vI (f)] [Sl a_ j i] (λx:Unit=>vB (r)) (λx l=>l) (λ_ l=>l):=by
 refine aX.of Tryz.func76 Z Tryz.ntmps76 Z λc=>?_;unfold lA at h;refine aW<|aC Z<|aM<|aK<|eD (λv=>pM  v=some r) (λv D=>[]) (λv D=>[]) ?_ ?_
 ·refine aW<|aC Z<|aM<|aT<|dZ (gF U i e f) (λd E=>[(0,j),(1,vI (e)),(2,vI (f)),(7,vI (d))]) (λd E=>[]) (0:Int) () h SF (aY.refl _) ?_;intro y d E h;refine aK<|aW<|aA Z<|aA Z<|jB (aE.fact 0 Z) Z<|cO Z<|aM ?_;refine fE h Z (λh=>?_) λh=>?_
  ·refine cK<|aK<|eD (λw=>pN d (bI (gF U i e f) y) w=some r) (λw k=>[(0,j),(1,vI (e)),(2,vI (f)),(7,vI (d))]) (λw k=>[]) ?_ ?_
   ·refine aT<|aK<|aK<|eD (λa=>kB U i d (bI (gF U i e f) y) a=some r) (λa m=>[(0,j),(1,vI (e)),(2,vI (f)),(7,vI (d)),(41,vB (a))]) (λa m=>[]) ?_ ?_
    ·refine aO<|aA Z<|aA Z<|dD h λq h=>aB (aZ Z Z (aE.fact 0 Z) Z Z q) Z<|aB (gA Z Z Z Z Z) Z<|aB (jQ Z (aE.fact 0 Z) Z Z Z oZ q) Z<|aA Z<|aB (oC Z Z) Z<|eX h λA B h=>aG (aN.callQ JK (Bn U  A B) Z .nil) Z λG=>aB (mE Z) Z<|aA Z ?_;refine rW (by exact rfl) (by exact rfl) (λb=>?_) (λb=>?_)
     ·have h:=Ik b h;refine aH Z<|aH Z<|aH Z<|aH Z<|aH Z<|aH Z<|aH Z<|dO Z<|aA Z<|aH Z<|aH Z<|aH Z<|aH Z<|aH Z<|aH Z<|aH Z<|dO Z<|aM ?_;exact gM (true) () h SF Z
     have h:=DY b h;refine cR Z<|cR Z<|dD h λs h=>aP Z (aZ Z Z (aE.fact 0 Z) Z Z s) Z<|aP Z (gA Z Z Z Z Z) Z<|aP Z (jQ Z (aE.fact 0 Z) Z Z Z oZ s) Z<|cR Z<|aP Z (OU Z Z) Z<|fI Z<|aA Z ?_;refine Dy h Z (λ_ h=>?_) λ_ h=>?_
     ·refine aH Z<|aH Z<|aH Z<|aH Z<|aH Z<|aH Z<|aH Z<|dO Z<|aM ?_;exact gM (true) () h SF Z
     refine cR Z<|cR Z<|dD h λt h=>aP Z (aZ Z Z (aE.fact 0 Z) Z Z t) Z<|aP Z (gA Z Z Z Z Z) Z<|aP Z (jQ Z (aE.fact 0 Z) Z Z Z FA t) Z<|eX h λu C h=>oP Z (aN.callQ JK (Bn U  u C) Z .nil) Z λH=>aP Z (mE Z) Z<|fI Z<|aM ?_;exact gM ((!u)) () h SF Z
    intro a m h;refine Ab h Z (λ_ h=>?_) λ_ h=>?_
    ·refine aW<|aC Z<|aM<|aU<|aI<|bL<|aI<|aI<|bL<|aI ?_;cases h;exact kV Z
    refine cK<|aW<|aC Z<|aM<|aT<|dZ (iO i d (bI (gF U i e f) y)) (λg n=>[(0,j),(1,vI (e)),(2,vI (f)),(7,vI (d)),(8,vI (g))]) (λg n=>[]) (0:Int) () h SF (aY.refl _) ?_;intro F g n h;refine aK<|aW<|aA Z<|aA Z<|cO Z<|aM ?_;refine fE h Z (λh=>?_) λh=>?_
    ·refine cK<|aK<|aT<|aK ?_;refine JR.start [0,0,3,7,15,0,0,96,224,480,1023] 10 mixedOrders (by decide +kernel) ?_;refine JR.open (by exact rfl) ?_;refine bF Z<|bF Z<|dD h λo h=>bK Z .nil (lC 0 Z) (aZ Z Z (aE.fact 0 Z) Z Z o) aL.z<|iW Z (gA Z Z Z Z Z)<|bK Z .nil (lC 0 Z) (jQ Z (aE.fact 0 Z) Z Z Z oZ o) aL.z<|bF Z<|bF Z<|dD h λp h=>bK Z .nil (lC 0 Z) (aZ Z Z (aE.fact 0 Z) Z Z p) aL.z<|iW Z (gA Z Z Z Z Z)<|bK Z .nil (lC 0 Z) (jQ Z (aE.fact 0 Z) Z Z Z oZ p) aL.z<|bM 10 Z Z<|cP Z<|aM ?_;refine fE h Z (λh=>?_) λh=>?_
     ·refine aW<|aC Z<|aM<|aU<|bL<|aI<|aI<|bL<|bL<|aI<|aI<|bL<|aI ?_;cases h;exact kV Z
     refine dW<|mQ<|aO<|aA Z<|cI Z<|aC Z<|aM ?_;exact yX (wI .i64 (g+(1:Int))) () h SF Z
    refine qO<|eM<|eM<|wQ<|mQ ?_;exact gM () (()) h SF Z
   intro w k h;unfold pN at h;refine aO<|aA Z<|cI Z<|aC Z<|aM ?_;exact yX (wI .i64 (d+(1:Int))) () h SF Z
  refine fH ?_;exact gM () (()) h SF Z
 intro v D h;unfold pM at h;refine aW<|aC Z<|aM<|aU ?_;cases h;exact kV Z
def BQ  (a:Unit):Option (Int):=
 some (-1:Int)
def zC (c:cF) (a:Int) (e:Int) (b:Int) (d:(Int)->Option (Int)):Option (Int):=
 ck (0<=a∧a<(List.length c.2:Int)) (if b<(List.length (at' c.2 a):Int)then(ck (0<=a∧a<(List.length c.2:Int)) (ck (0<=b∧b<(List.length (at' c.2 a):Int)) (if((at' (at' c.2 a) b).1)=e then(some (b))else(d (wI .i64 (b+(1:Int)))))))else(BQ  (())))
def xL (U:Nat) (a:cF) (b:Int) (c:Int):Option (Int):=
 bI (zC a b c) U (0:Int)
theorem adI:aV Tryz.prog 77:=Tryz.call77
theorem NX (U:Nat) {g:cF} {i:Int} {j:Int} (k:Value)  (m:Value)  (q:kH) (r:Int) (h:xL U g i j=some r):
  aX Tryz.prog 77 #[Value.agg #[k,m],vI (i),vI (j)] [Sl bP k g.1,S2 a_ m q g.2] (λx:Unit=>vI (r)) (λx l=>l) (λ_ l=>l):=by
 refine aX.of Tryz.func77 Z Tryz.ntmps77 Z λc=>?_;unfold xL at h;refine aW<|aG (aN.box (cs:=[k,m]) Z Z) Z λn=>aC Z<|aM<|aK<|eD (λd=>BQ  d=some r) (λd o=>[]) (λd o=>[]) ?_ ?_
 ·refine aW<|aC Z<|aM<|aT<|dZ (zC g i j) (λe p=>[(1,vI (i)),(2,vI (j)),(3,vP n),(7,vI (e))]) (λe p=>[bV n [k,m] 29]) (0:Int) () h SF (aY.refl _) ?_;intro s e p h;refine aK<|aW<|aA Z<|bU Z<|dK 0 Z<|aA Z<|dD h λf h=>aB (cH Z Z (aE.fact 1 Z) Z Z f) Z<|aB (cG Z (aE.fact 1 Z) Z Z f) Z<|aB (gW Z (aE.el (aE.fact 1 Z) f.1 f.2) Z) Z<|cO Z<|aM ?_;refine fE h Z (λh=>?_) λh=>?_
  ·refine cK<|aK<|aT<|aW<|bU Z<|dK 0 Z<|aA Z<|dD h λa h=>aB (cH Z Z (aE.fact 1 Z) Z Z a) Z<|aB (cG Z (aE.fact 1 Z) Z Z a) Z<|aA Z<|dD h λb h=>aB (aZ Z Z (aE.el (aE.fact 1 Z) a.1 a.2) Z Z b) Z<|aB (gA Z Z Z Z Z) Z<|aB (jQ Z (aE.el (aE.fact 1 Z) a.1 a.2) Z Z Z oZ b) Z<|aA Z<|cP Z<|aM ?_;refine fE h Z (λh=>?_) λh=>?_
   ·refine aW<|aA Z<|aC Z<|aM<|aU<|bL<|aI<|aI<|bL<|aI ?_;cases h;exact sE Z
   refine dW<|mQ<|aO<|aA Z<|cI Z<|aC Z<|aM ?_;exact yX (wI .i64 (e+(1:Int))) () h SF Z
  refine fH ?_;exact cL () (()) h SF .nil (aF.refl _ _)
 intro d o h;unfold BQ at h;refine aW<|aC Z<|aM<|aU ?_;cases h;exact kV Z
def sZ  (a:Unit):Option (Bool):=
 some (true)
def s_ (b:Int) (a:(Int)->Option (Bool)) (c:Unit):Option (Bool):=
 a (wI .i64 (b+(1:Int)))
def tA (b:Int) (a:(Int)->Option (Bool)) (c:Bool):Option (Bool):=
 if c=true then(some (false))else(a (wI .i64 (b+(1:Int))))
def eL (U:Nat) (c:cF) (a:Int) (f:(Int)->Option (Bool)) (b:Int) (e:(Int)->Option (Bool)):Option (Bool):=
 ck (0<=a∧a<(List.length c.2:Int)) (if b<(List.length (at' c.2 a):Int)then(ck (0<=a∧a<(List.length c.2:Int)) (ck (0<=b∧b<(List.length (at' c.2 a):Int)) (Option.bind (xL U ((c.1,c.2)) ((at' (at' c.2 a) b).1) a) λd=>(if d<(0:Int)then(tA b e (true))else(ck (0<=((at' (at' c.2 a) b).1)∧((at' (at' c.2 a) b).1)<(List.length c.2:Int)) (ck (0<=d∧d<(List.length (at' c.2 ((at' (at' c.2 a) b).1)):Int)) (tA b e (decide (((at' (at' c.2 ((at' (at' c.2 a) b).1)) d).2)≠((at' (at' c.2 a) b).2))))))))))else(s_ a f (())))
def fM (U:Nat) (c:cF) (a:Int) (b:(Int)->Option (Bool)):Option (Bool):=
 if a<(List.length c.2:Int)then(bI (eL U c a b) U (0:Int))else(sZ  (()))
def nP (U:Nat) (a:cF) (b:Unit):Option (Bool):=
 bI (fM U a) U (0:Int)
def tB (b:Int) (a:(Int)->Option (Bool)) (c:Unit):Option (Bool):=
 a (wI .i64 (b+(1:Int)))
def fY (e:cF) (a:Int) (c:(Int)->Option (Bool)) (b:Int) (d:(Int)->Option (Bool)):Option (Bool):=
 if b<a then(ck (0<=b∧b<(List.length e.1:Int)) (ck (0<=a∧a<(List.length e.1:Int)) (if(at' e.1 b)=(at' e.1 a)then(some (false))else(d (wI .i64 (b+(1:Int)))))))else(tB a c (()))
def lU (U:Nat) (d:cF) (b:Int) (a:(Int)->Option (Bool)) (c:Bool):Option (Bool):=
 if c=true then(some (false))else(bI (fY d b a) U (0:Int))
def fN (U:Nat) (b:cF) (a:Int) (c:(Int)->Option (Bool)):Option (Bool):=
 if a<(List.length b.2:Int)then(ck (0<=a∧a<(List.length b.1:Int)) (Option.bind (sV U (at' b.1 a) (0:Int) (255:Int)) λd=>(if(!d)=true then(lU U b a c (true))else(ck (0<=a∧a<(List.length b.2:Int)) (if(List.length b.2:Int)<=(List.length (at' b.2 a):Int)then(lU U b a c (true))else(ck (0<=a∧a<(List.length b.2:Int)) (Option.bind (lA U (at' b.2 a) a (List.length b.2:Int)) λe=>(lU U b a c ((!e))))))))))else(nP U b (()))
def sY (U:Nat) (b:cF) (a:Bool):Option (Bool):=
 if a=true then(some (false))else(bI (fN U b) U (0:Int))
def lI (U:Nat) (a:cF):Option (Bool):=
 Option.bind (sV U (List.length a.2:Int) (1:Int) (24:Int)) λb=>(if(!b)=true then(sY U a (true))else(sY U a (decide ((List.length a.1:Int)≠(List.length a.2:Int)))))
theorem adw:aV Tryz.prog 48:=Tryz.call48
theorem Lu (U:Nat) {a:cF} (g:Value)  (i:Value)  (z2:kH) (r:Bool) (h:lI U a=some r):
  aX Tryz.prog 48 #[Value.agg #[g,i]] [Sl bP g a.1,S2 a_ i z2 a.2] (λx:Unit=>vB (r)) (λx l=>l) (λ_ l=>l):=by
 refine aX.of Tryz.func48 Z Tryz.ntmps48 Z λc=>?_;refine aW<|aG (aN.box (cs:=[g,i]) Z Z) Z λf=>aC Z<|aM<|aW<|bU Z<|dK 0 Z<|aB (iY Z (aE.fact 1 Z) Z) Z<|aC Z<|aM<|aK<|aK<|eD (λC=>sY U a C=some r) (λC b4=>[(1,vP f),(3,vI (List.length a.2:Int)),(22,vB (C))]) (λC b4=>[bV f [g,i] 29]) ?_ ?_
 ·refine aO<|aA Z<|eX h λX ac h=>aG (aN.callQ JK (Bn U  X ac) Z .nil) Z λai=>aB (mE Z) Z<|aA Z ?_;refine rW (by exact rfl) (by exact rfl) (λq=>?_) (λq=>?_)
  ·have h:=Ik q h;refine aH Z<|aH Z<|aH Z<|aH Z<|aH Z<|dO Z<|aM ?_;exact gM (true) () h SF Z
  have h:=DY q h;refine aP Z (dC Z Z Z Z Z) Z<|aP Z (eG 0 Z Z Z Z Z) Z<|aP Z (gW Z (aE.fact 0 Z) Z) Z<|cR Z<|aP Z (DJ Z Z) Z<|fI Z<|aM ?_;exact gM (decide ((List.length a.1:Int)≠(List.length a.2:Int))) () h SF Z
 intro C b4 h;refine Ab h Z (λ_ h=>?_) λ_ h=>?_
 ·refine aW<|aC Z<|aM<|aU<|aI ?_;cases h;exact sE Z
 refine cK<|aK<|eD (λS=>nP U a S=some r) (λS b7=>[(1,vP f),(3,vI (List.length a.2:Int))]) (λS b7=>[bV f [g,i] 29]) ?_ ?_
 ·refine aW<|aC Z<|aM<|aT<|dZ (fN U a) (λe H=>[(1,vP f),(3,vI (List.length a.2:Int)),(4,vI (e))]) (λe H=>[bV f [g,i] 29]) (0:Int) () h SF (aY.refl _) ?_;intro B e H h;refine aK<|aW<|aA Z<|aA Z<|cO Z<|aM ?_;refine fE h Z (λh=>?_) λh=>?_
  ·refine cK<|aK<|eD (λt=>tB e (bI (fN U a) B) t=some r) (λt I=>[(1,vP f),(3,vI (List.length a.2:Int)),(4,vI (e))]) (λt I=>[bV f [g,i] 29]) ?_ ?_
   ·refine aT<|aK<|aK<|eD (λn=>lU U a e (bI (fN U a) B) n=some r) (λn J=>[(1,vP f),(3,vI (List.length a.2:Int)),(4,vI (e)),(55,vB (n))]) (λn J=>[bV f [g,i] 29]) ?_ ?_
    ·refine aO<|bU Z<|dK 0 Z<|aA Z<|dD h λP h=>aB (aZ Z Z (aE.fact 0 Z) Z Z P) Z<|aB (bX Z (aE.fact 0 Z) Z Z Z dG P) Z<|eX h λW aa h=>aG (aN.callQ JK (Bn U  W aa) Z .nil) Z λag=>aB (mE Z) Z<|aA Z ?_;refine rW (by exact rfl) (by exact rfl) (λp=>?_) (λp=>?_)
     ·have h:=Ik p h;refine aH Z<|aH Z<|aH Z<|aH Z<|aH Z<|aH Z<|aH Z<|aH Z<|dO Z<|aA Z<|aH Z<|aH Z<|aH Z<|aH Z<|aH Z<|aH Z<|aH Z<|aH Z<|aH Z<|dO Z<|aM ?_;exact gM (true) () h SF Z
     have h:=DY p h;refine aP Z (dC Z Z Z Z Z) Z<|aP Z (eG 0 Z Z Z Z Z) Z<|cR Z<|dD h λw h=>aP Z (cH Z Z (aE.fact 1 Z) Z Z w) Z<|aP Z (cG Z (aE.fact 1 Z) Z Z w) Z<|aP Z (gW Z (aE.el (aE.fact 1 Z) w.1 w.2) Z) Z<|cR Z<|aP Z (B_ Z Z) Z<|fI Z<|aA Z ?_;refine Dy h Z (λ_ h=>?_) λ_ h=>?_
     ·refine aH Z<|aH Z<|aH Z<|aH Z<|aH Z<|aH Z<|aH Z<|aH Z<|aH Z<|dO Z<|aM ?_;exact gM (true) () h SF Z
     refine aP Z (dC Z Z Z Z Z) Z<|aP Z (eG 0 Z Z Z Z Z) Z<|cR Z<|dD h λy h=>aP Z (cH Z Z (aE.fact 1 Z) Z Z y) Z<|aP Z (cG Z (aE.fact 1 Z) Z Z y) Z<|cR Z<|cR Z<|eX h λR ab h=>oP Z (aN.callQ adH (FW U ((at' z2 e).1) R ab) Z (aF.cons (aE.el (aE.fact 1 Z) y.1 y.2) .nil)) Z λah=>aP Z (mE Z) Z<|fI Z<|aM ?_;exact gM ((!R)) () h SF Z
    intro n J h;refine Ab h Z (λ_ h=>?_) λ_ h=>?_
    ·refine aW<|aC Z<|aM<|aU<|aI<|bL<|aI<|aI<|bL<|aI ?_;cases h;exact sE Z
    refine cK<|aW<|aC Z<|aM<|aT<|dZ (fY a e (bI (fN U a) B)) (λu K=>[(1,vP f),(3,vI (List.length a.2:Int)),(4,vI (e)),(5,vI (u))]) (λu K=>[bV f [g,i] 29]) (0:Int) () h SF (aY.refl _) ?_;intro ae u K h;refine aK<|aW<|aA Z<|aA Z<|cO Z<|aM ?_;refine fE h Z (λh=>?_) λh=>?_
    ·refine cK<|aK<|aT<|aK ?_;refine JR.start [0,1,0,7,15,0,32,0,224,480,1023] 10 mixedOrders (by decide +kernel) ?_;refine JR.open (by exact rfl) ?_;refine cY Z<|iS 0 Z<|bF Z<|dD h λN h=>bK Z .nil (lC 0 Z) (aZ Z Z (aE.fact 0 Z) Z Z N) aL.z<|bK Z .nil (lC 0 Z) (bX Z (aE.fact 0 Z) Z Z Z dG N) aL.z<|cY Z<|iS 0 Z<|bF Z<|dD h λO h=>bK Z .nil (lC 0 Z) (aZ Z Z (aE.fact 0 Z) Z Z O) aL.z<|bK Z .nil (lC 0 Z) (bX Z (aE.fact 0 Z) Z Z Z dG O) aL.z<|bM 10 Z Z<|cP Z<|aM ?_;refine fE h Z (λh=>?_) λh=>?_
     ·refine aW<|aC Z<|aM<|aU<|bL<|aI<|aI<|bL<|bL<|aI<|aI<|bL<|aI ?_;cases h;exact sE Z
     refine dW<|mQ<|aO<|aA Z<|cI Z<|aC Z<|aM ?_;exact yX (wI .i64 (u+(1:Int))) () h SF Z
    refine qO<|eM<|eM<|wQ<|mQ ?_;exact gM () (()) h SF Z
   intro t I h;unfold tB at h;refine aO<|aA Z<|cI Z<|aC Z<|aM ?_;exact yX (wI .i64 (e+(1:Int))) () h SF Z
  refine fH ?_;exact gM () (()) h SF Z
 intro S b7 h;unfold nP at h;refine aK<|eD (λT=>sZ  T=some r) (λT b9=>[]) (λT b9=>[]) ?_ ?_
 ·refine aW<|aC Z<|aM<|aT<|dZ (fM U a) (λb D=>[(1,vP f),(3,vI (List.length a.2:Int)),(6,vI (b))]) (λb D=>[bV f [g,i] 29]) (0:Int) () h SF (aY.refl _) ?_;intro A b D h;refine aK<|aW<|aA Z<|aA Z<|cO Z<|aM ?_;refine fE h Z (λh=>?_) λh=>?_
  ·refine cK<|aK<|eD (λs=>s_ b (bI (fM U a) A) s=some r) (λs E=>[(1,vP f),(3,vI (List.length a.2:Int)),(6,vI (b))]) (λs E=>[bV f [g,i] 29]) ?_ ?_
   ·refine aT<|aW<|aC Z<|aM<|aT<|dZ (eL U a b (bI (fM U a) A)) (λd F=>[(1,vP f),(3,vI (List.length a.2:Int)),(6,vI (b)),(7,vI (d))]) (λd F=>[bV f [g,i] 29]) (0:Int) () h SF (aY.refl _) ?_;intro V d F h;refine aK<|aW<|aA Z<|bU Z<|dK 0 Z<|aA Z<|dD h λv h=>aB (cH Z Z (aE.fact 1 Z) Z Z v) Z<|aB (cG Z (aE.fact 1 Z) Z Z v) Z<|aB (gW Z (aE.el (aE.fact 1 Z) v.1 v.2) Z) Z<|cO Z<|aM ?_;refine fE h Z (λh=>?_) λh=>?_
    ·refine cK<|aK<|aT<|aW<|bU Z<|dK 0 Z<|aA Z<|dD h λj h=>aB (cH Z Z (aE.fact 1 Z) Z Z j) Z<|aB (cG Z (aE.fact 1 Z) Z Z j) Z<|aA Z<|dD h λL h=>aB (aZ Z Z (aE.el (aE.fact 1 Z) j.1 j.2) Z Z L) Z<|aB (iM (cs:=[vI ((at' (at' a.2 b) d).1),vI ((at' (at' a.2 b) d).2)]) Z (aE.el (aE.fact 1 Z) j.1 j.2) bR Z Z Z Z L) Z<|aG (aN.alloc (cs:=Uv) Z Z) Z λad=>bQ 0 (vs:=[vI ((at' (at' a.2 b) d).1),vI ((at' (at' a.2 b) d).2)]) Z Z Z Z Z Z<|aM<|aW<|dV 1 Z<|bU Z<|dK 0 Z<|aA Z<|eX h λQ Y h=>aG (aN.callQ adI (NX U g i z2 Q Y) Z (n_ [0,1] Z)) Z λaf=>aC Z<|aM<|aK<|eD (λm=>tA d (bI (eL U a b (bI (fM U a) A)) V) m=some r) (λm G=>[(1,vP f),(3,vI (List.length a.2:Int)),(6,vI (b)),(7,vI (d)),(116,vB (m))]) (λm G=>[bV f [g,i] 29]) ?_ ?_
     ·refine JR.start [0,1,3,7,15,7,39,127,255,7,1023,2047,4095,7,8199,32767,65535] 15 mixedOrders (by decide +kernel) ?_;refine JR.open (by exact rfl) ?_;refine bF Z<|iW Z (Gq Z Z)<|bF Z ?_;refine BX (by exact rfl) (by exact rfl) (by exact rfl) (λo=>?_) (λo=>?_)
      ·have h:=Ik o h;refine bO Z Z Z Z<|bO Z Z Z Z<|bO Z Z Z Z<|bO Z Z Z Z<|bO Z Z Z Z<|bO Z Z Z Z<|bO Z Z Z Z<|bO Z Z Z Z<|bO Z Z Z Z<|bO Z Z Z Z<|bO Z Z Z Z<|bO Z Z Z Z<|bM 15 Z Z<|aH Z<|dO Z<|aM ?_;exact cL (true) () h SF (aY.ix [1] Z Z) (aF.refl _ _)
      have h:=ifN o h;refine eF Z .nil .nil (dC Z Z Z Z Z) aL.z<|eF Z (aY.cons 1 Z .nil) .nil (eG 0 Z Z Z Z Z) aL.z<|eF Z .nil .nil (dC Z Z Z Z Z) aL.z<|eF Z (aY.cons 0 Z .nil) .nil (eG 0 Z Z Z Z Z) aL.z<|dD h λk h=>eF Z .nil (lC 1 Z) (cH Z Z (aE.fact 0 Z) Z Z k) aL.z<|eF Z .nil (lC 1 Z) (cG Z (aE.fact 0 Z) Z Z k) aL.z<|eF Z .nil .nil (gH Z) aL.z<|dD h λM h=>eF Z .nil (lC 1 Z) (aZ Z Z (aE.el (aE.fact 0 Z) k.1 k.2) Z Z M) aL.z<|eF Z .nil .nil (gA Z Z Z Z Z) aL.z<|eF Z .nil (lC 1 Z) (jQ Z (aE.el (aE.fact 0 Z) k.1 k.2) Z Z Z FA M) aL.z<|eF Z .nil .nil (dC Z Z Z Z Z) aL.z<|eF Z (aY.cons 0 Z .nil) .nil (eG 0 Z Z Z Z Z) aL.z<|bM 15 Z Z<|aP Z (DJ Z Z) Z<|fI Z<|aM ?_;exact cL (decide (((at' (at' a.2 ((at' (at' a.2 b) d).1)) Q).2)≠((at' (at' a.2 b) d).2))) () h SF (aY.ix [1] Z Z) (aF.refl _ _)
     intro m G h;refine Ab h Z (λ_ h=>?_) λ_ h=>?_
     ·refine aW<|aC Z<|aM<|aU<|bL<|aI<|aI<|bL<|bL<|aI<|aI<|bL<|aI ?_;cases h;exact sE Z
     refine dW<|mQ<|aO<|aA Z<|cI Z<|aC Z<|aM ?_;exact yX (wI .i64 (d+(1:Int))) () h SF Z
    refine qO<|eM<|eM<|wQ<|mQ ?_;exact gM () (()) h SF Z
   intro s E h;unfold s_ at h;refine aO<|aA Z<|cI Z<|aC Z<|aM ?_;exact yX (wI .i64 (b+(1:Int))) () h SF Z
  refine fH ?_;exact cL () (()) h SF .nil (aF.refl _ _)
 intro T b9 h;unfold sZ at h;refine aW<|aC Z<|aM<|aU ?_;cases h;exact kV Z
def qU  (a:aS):Option aS:=
 some (a)
def qV (b:oB) (a:x_->Option aS) (c:aS):Option aS:=
 a ((wI .i64 (b.1+(1:Int))),c)
def qW (b:oB) (a:x_->Option aS) (c:aS):Option aS:=
 a ((wI .i64 (b.1+(1:Int))),c)
def nO (b:oB) (a:x_->Option aS) (c:aS):Option aS:=
 a ((wI .i64 (b.1+(1:Int))),c)
def qX (f:cF) (d:oB) (b:oB) (e:x_->Option aS) (a:oB) (c:x_->Option aS) (g:Bool):Option aS:=
 if g=true then(ck (0<=b.1∧b.1<(List.length f.2:Int)) (ck (0<=a.1∧a.1<(List.length (at' f.2 b.1):Int)) (ck (0<=((at' (at' f.2 b.1) a.1).1)∧((at' (at' f.2 b.1) a.1).1)<(List.length a.2:Int)) (if(at' a.2 ((at' (at' f.2 b.1) a.1).1))=(wI .i64 (d.1 - (1:Int)))then(ck (0<=b.1∧b.1<(List.length a.2:Int)) (nO a c (List.set a.2 (Int.toNat b.1) d.1)))else(nO a c (a.2))))))else(qW b e (a.2))
def lB (f:cF) (e:oB) (a:oB) (c:x_->Option aS) (b:oB) (d:x_->Option aS):Option aS:=
 ck (0<=a.1∧a.1<(List.length f.2:Int)) (if b.1<(List.length (at' f.2 a.1):Int)then(ck (0<=a.1∧a.1<(List.length b.2:Int)) (qX f e a c b d (decide ((at' b.2 a.1)<(0:Int)))))else(qX f e a c b d (false)))
def iF (U:Nat) (e:cF) (b:oB) (c:x_->Option aS) (a:oB) (d:x_->Option aS):Option aS:=
 if a.1<(List.length e.2:Int)then(bI (lB e b a d) U ((0:Int),a.2))else(qV b c (a.2))
def fD (U:Nat) (c:cF) (a:oB) (b:x_->Option aS):Option aS:=
 if a.1<(List.length c.2:Int)then(bI (iF U c a b) U ((0:Int),a.2))else(qU  (a.2))
def vX (U:Nat) (c:cF) (a:Int) (b:aS):Option aS:=
 ck (0<=a∧a<(List.length b:Int)) (bI (fD U c) U ((1:Int),(List.set b (Int.toNat a) (0:Int))))
def vY (U:Nat) (c:cF) (d:Int) (a:aS×Int) (b:(aS×Int)->Option aS):Option aS:=
 if a.2<(List.length c.2:Int)then(ck ((List.length a.1:Int)+(List.length ([(-1:Int)]):Int)<=1099511627) (b ((a.1++([(-1:Int)])),(wI .i64 (a.2+(1:Int))))))else(vX U c d (a.1))
def nN (U:Nat) (b:cF) (c:Int) (a:Bool):Option aS:=
 if a=true then(some ([]:aS))else(bI (vY U b c) U (([]:aS),(0:Int)))
def jY (U:Nat) (a:cF) (b:Int):Option aS:=
 Option.bind (lI U ((a.1,a.2))) λc=>(if(!c)=true then(nN U a b (true))else(Option.bind (sV U b (0:Int) (wI .i64 ((List.length a.2:Int) - (1:Int)))) λd=>(nN U a b ((!d)))))
theorem WV:aV Tryz.prog 28:=Tryz.call28
theorem BF (U:Nat) {d:cF} {A:Int} (m:Value)  (n:Value)  (z2:kH) (r:aS) (h:jY U d A=some r):
  aX Tryz.prog 28 #[Value.agg #[m,n],vI (A)] [Sl bP m d.1,S2 a_ n z2 d.2] (λx:Value=>x) (λx l=>Ar b_ x r::l) (λ_ l=>l):=by
 refine aX.of Tryz.func28 Z Tryz.ntmps28 Z λc=>?_;refine aW<|aG (aN.box (cs:=[m,n]) Z Z) Z λi=>aC Z<|aM<|aK<|aK<|eD (λD=>nN U d A D=some r) (λD b4=>[(1,vI (A)),(2,vP i),(22,vB (D))]) (λD b4=>[bV i [m,n] 29]) ?_ ?_
 ·refine aO<|dV 0 Z<|eX h λV X h=>aG (aN.callQ adw (Lu U m n z2 V X) Z (n_ [0,1] Z)) Z λac=>aB (mE Z) Z<|aA Z ?_;refine rW (by exact rfl) (by exact rfl) (λw=>?_) (λw=>?_)
  ·have h:=Ik w h;refine aH Z<|aH Z<|aH Z<|aH Z<|aH Z<|aH Z<|aH Z<|dO Z<|aM ?_;exact gM (true) () h SF Z
  have h:=DY w h;refine cR Z<|aP Z (dC Z Z Z Z Z) Z<|aP Z (eG 0 Z Z Z Z Z) Z<|aP Z (iY Z (aE.fact 1 Z) Z) Z<|aP Z (oC Z Z) Z<|eX h λS Y h=>oP Z (aN.callQ JK (Bn U  S Y) Z .nil) Z λad=>aP Z (mE Z) Z<|fI Z<|aM ?_;exact gM ((!S)) () h SF Z
 intro D b4 h;refine Ab h Z (λ_ h=>?_) λ_ h=>?_
 ·refine aW<|aC Z<|aM<|aU<|aI<|i_ (f_ b_) ?_;cases h;exact fV (lF) Z Z (RV.tmp Z) (aY.ix [0] Z Z) aF.nil
 refine cK<|aW<|bU Z<|dK 0 Z<|aB (iY Z (aE.fact 1 Z) Z) Z<|aC Z<|aM<|aW<|aC Z<|aM<|aK<|Ch (B:=Value) (λC=>vX U d A C=some r) (λC g=>[(1,vI (A)),(2,vP i),(5,vI (List.length d.2:Int)),(6,g)]) (λC g=>[bV i [m,n] 29,Ar b_ g C]) ?_ ?_
 ·refine aW<|aC Z<|aM<|aT<|i_ (f_ b_)<|dZ (B:=Value) (vY U d A) (λj v=>[(1,vI (A)),(2,vP i),(5,vI (List.length d.2:Int)),(6,v),(7,vI (j.2))]) (λj v=>[bV i [m,n] 29,Ar b_ v j.1]) (([]:aS),(0:Int)) (lF) h SF (aY.ix [1,0] Z Z) ?_;intro aa j v h;refine aK<|aW<|aA Z<|aA Z<|cO Z<|aM ?_;refine fE h Z (λh=>?_) λh=>?_
  ·refine cK<|aK<|aT<|aO<|aA Z<|aG (bY (e:=b_) ([(-1:Int)]) [(0,vI (-1:Int))] Z Z Z Z (lR (vI (-1:Int)) Z) Z Z Z) Z λab=>dD h λT h=>aG (eN 2 dY Z Z Z (bE (aE.res 0 Z) dY) Z Z Z Z T Z) Z λW=>aC Z<|eT<|mQ<|aO<|aA Z<|cI Z<|aC Z<|aM ?_;exact lK ((j.1++([(-1:Int)])),(wI .i64 (j.2+(1:Int)))) (W) h SF (aY.ix [1,2] Z Z) (aF.refl _ _)
  refine fH ?_;exact gM (j.1) (v) h SF Z
 intro C g h;refine aW<|aA Z<|aA Z<|dD h λM h=>aB (aZ Z Z (bE (aE.res 1 Z) dY) Z Z M) Z<|AQ 1 (0:Int) M Z Z Z Z Z Z Z<|aM<|aK<|eD (λt=>qU  t=some r) (λt E=>[(6,g)]) (λt E=>[Ar b_ g t]) ?_ ?_
 ·refine aW<|aC Z<|aM<|aT<|dZ (fD U d) (λa F=>[(2,vP i),(5,vI (List.length d.2:Int)),(6,g),(8,vI (a.1))]) (λa F=>[bV i [m,n] 29,Ar b_ g a.2]) ((1:Int),(List.set C (Int.toNat A) (0:Int))) () h SF (aY.refl _) ?_;intro k a F h;refine aK<|aW<|aA Z<|aA Z<|cO Z<|aM ?_;refine fE h Z (λh=>?_) λh=>?_
  ·refine cK<|aK<|eD (λo=>qV a (bI (fD U d) k) o=some r) (λo G=>[(2,vP i),(5,vI (List.length d.2:Int)),(6,g),(8,vI (a.1))]) (λo G=>[bV i [m,n] 29,Ar b_ g o]) ?_ ?_
   ·refine aT<|aW<|aC Z<|aM<|aT<|dZ (iF U d a (bI (fD U d) k)) (λb H=>[(2,vP i),(5,vI (List.length d.2:Int)),(6,g),(8,vI (a.1)),(9,vI (b.1))]) (λb H=>[bV i [m,n] 29,Ar b_ g b.2]) ((0:Int),a.2) () h SF (aY.refl _) ?_;intro y b H h;refine aK<|aW<|aA Z<|aA Z<|cO Z<|aM ?_;refine fE h Z (λh=>?_) λh=>?_
    ·refine cK<|aK<|eD (λp=>qW b (bI (iF U d a (bI (fD U d) k)) y) p=some r) (λp I=>[(2,vP i),(5,vI (List.length d.2:Int)),(6,g),(8,vI (a.1)),(9,vI (b.1))]) (λp I=>[bV i [m,n] 29,Ar b_ g p]) ?_ ?_
     ·refine aT<|aW<|aC Z<|aM<|aT<|dZ (lB d a b (bI (iF U d a (bI (fD U d) k)) y)) (λf J=>[(2,vP i),(5,vI (List.length d.2:Int)),(6,g),(8,vI (a.1)),(9,vI (b.1)),(10,vI (f.1))]) (λf J=>[bV i [m,n] 29,Ar b_ g f.2]) ((0:Int),b.2) () h SF (aY.refl _) ?_;intro R f J h;refine aK<|aK<|eD (λu=>qX d a b (bI (iF U d a (bI (fD U d) k)) y) f (bI (lB d a b (bI (iF U d a (bI (fD U d) k)) y)) R) u=some r) (λu K=>[(2,vP i),(5,vI (List.length d.2:Int)),(6,g),(8,vI (a.1)),(9,vI (b.1)),(10,vI (f.1)),(61,vB (u))]) (λu K=>[bV i [m,n] 29,Ar b_ g f.2]) ?_ ?_
      ·refine aO<|aA Z<|bU Z<|dK 0 Z<|aA Z<|dD h λz h=>aB (cH Z Z (aE.fact 1 Z) Z Z z) Z<|aB (cG Z (aE.fact 1 Z) Z Z z) Z<|aB (gW Z (aE.el (aE.fact 1 Z) z.1 z.2) Z) Z<|cO Z<|aA Z ?_;refine Dy h Z (λ_ h=>?_) λ_ h=>?_
       ·refine cR Z<|cR Z<|dD h λQ h=>aP Z (aZ Z Z (bE (aE.res 1 Z) dY) Z Z Q) Z<|aP Z (bX Z (bE (aE.res 1 Z) dY) Z Z Z dG Q) Z<|aP Z (Gq Z Z) Z<|dO Z<|aM ?_;exact gM (decide ((at' f.2 b.1)<(0:Int))) () h SF Z
       refine aH Z<|aH Z<|aH Z<|aH Z<|aH Z<|fI Z<|aM ?_;exact gM (false) () h SF Z
      intro u K h;refine Ab h Z (λ_ h=>?_) λ_ h=>?_
      ·refine cK<|aK<|eD (λq=>nO f (bI (lB d a b (bI (iF U d a (bI (fD U d) k)) y)) R) q=some r) (λq L=>[(2,vP i),(5,vI (List.length d.2:Int)),(6,g),(8,vI (a.1)),(9,vI (b.1)),(10,vI (f.1))]) (λq L=>[bV i [m,n] 29,Ar b_ g q]) ?_ ?_
       ·refine aT<|aW<|aA Z<|bU Z<|dK 0 Z<|aA Z<|dD h λs h=>aB (cH Z Z (aE.fact 1 Z) Z Z s) Z<|aB (cG Z (aE.fact 1 Z) Z Z s) Z<|aA Z<|dD h λN h=>aB (aZ Z Z (aE.el (aE.fact 1 Z) s.1 s.2) Z Z N) Z<|aB (gA Z Z Z Z Z) Z<|aB (jQ Z (aE.el (aE.fact 1 Z) s.1 s.2) Z Z Z oZ N) Z<|dD h λO h=>aB (aZ Z Z (bE (aE.res 1 Z) dY) Z Z O) Z<|aB (bX Z (bE (aE.res 1 Z) dY) Z Z Z dG O) Z<|aA Z<|aB (oC Z Z) Z<|cP Z<|aM ?_;refine fE h Z (λh=>?_) λh=>?_
        ·refine aO<|aA Z<|aA Z<|aA Z<|dD h λP h=>aB (aZ Z Z (bE (aE.res 1 Z) dY) Z Z P) Z<|AQ 1 a.1 P Z Z Z Z Z Z Z<|eT<|mQ ?_;exact gM (List.set f.2 (Int.toNat b.1) a.1) () h SF Z
        refine dW<|mQ ?_;exact gM (f.2) () h SF Z
       intro q L h;unfold nO at h;refine aO<|aA Z<|cI Z<|aC Z<|aM ?_;exact yX ((wI .i64 (f.1+(1:Int))),q) () h SF Z
      refine qO<|eM<|eM<|wQ<|mQ ?_;exact gM (f.2) () h SF Z
     intro p I h;unfold qW at h;refine aO<|aA Z<|cI Z<|aC Z<|aM ?_;exact yX ((wI .i64 (b.1+(1:Int))),p) () h SF Z
    refine qO<|eM<|eM<|wQ<|mQ ?_;exact gM (b.2) () h SF Z
   intro o G h;unfold qV at h;refine aO<|aA Z<|cI Z<|aC Z<|aM ?_;exact yX ((wI .i64 (a.1+(1:Int))),o) () h SF Z
  refine fH ?_;exact cL (a.2) () h SF (aY.ix [1] Z Z) (aF.refl _ _)
 intro t E h;unfold qU at h;refine aW<|aA Z<|aC Z<|aM<|aU ?_;cases h;exact fV (g) Z Z (RV.tmp Z) (aY.refl _) aF.nil
def rY  (a:Int):Option (Int):=
 some (a)
def xB (c:aS) (a:fU) (b:jC->Option (Int)):Option (Int):=
 if a.2<(List.length c:Int)then(ck (0<=a.2∧a.2<(List.length c:Int)) (b ((max a.1 (at' c a.2)),(wI .i64 (a.2+(1:Int))))))else(rY  (a.1))
def mR (U:Nat) (a:aS):Option (Int):=
 bI (xB a) U ((-1:Int),(0:Int))
theorem adC:aV Tryz.prog 62:=Tryz.call62
theorem HY (U:Nat) {e:aS} (f:Value) (r:Int) (h:mR U e=some r):
  aX Tryz.prog 62 #[f] [Sl bP f e] (λx:Unit=>vI (r)) (λx l=>l) (λ_ l=>l):=by
 refine aX.of Tryz.func62 Z Tryz.ntmps62 Z λc=>?_;unfold mR at h;refine aW<|aC Z<|aM<|aW<|aC Z<|aM<|aK<|eD (λb=>rY  b=some r) (λb g=>[(3,vI (b))]) (λb g=>[]) ?_ ?_
 ·refine aW<|aA Z<|jB (aE.fact 0 Z) Z<|aA Z<|aM<|aT<|dZ (xB e) (λa i=>[(3,vI (a.1)),(6,f),(7,vI (List.length e:Int)),(8,vI (a.2))]) (λa i=>[]) ((-1:Int),(0:Int)) () h SF (aY.refl _) ?_;intro j a i h;refine aW<|cO Z<|aM<|aK ?_;refine fE h Z (λh=>?_) λh=>?_
  ·refine cK<|aK<|aT<|aW<|dD h λd h=>aB (aZ Z Z (aE.fact 0 Z) Z Z d) Z<|aB (bX Z (aE.fact 0 Z) Z Z Z dG d) Z<|aC Z<|aM<|aO<|aA Z<|aA Z<|aB (Ie Z Z) Z<|aC Z<|eT<|mQ<|aO<|cI Z<|aA Z<|aM ?_;exact yX ((max a.1 (at' e a.2)),(wI .i64 (a.2+(1:Int)))) () h SF Z
  refine fH ?_;exact gM (a.1) () h SF Z
 intro b g h;unfold rY at h;refine aW<|aA Z<|aC Z<|aM<|aU ?_;cases h;exact kV Z
def kQ (U:Nat) (a:cF) (c:Int) (b:Bool):Option (Int):=
 if b=true then(some (-1:Int))else(Option.bind (jX U ((a.1,a.2)) c) λd=>(Option.bind (mR U d) λe=>(some (e))))
def jP (U:Nat) (a:cF) (b:Int):Option (Int):=
 Option.bind (dR U ((a.1,a.2))) λc=>(if(!c)=true then(kQ U a b (true))else(if b<(0:Int)then(kQ U a b (true))else(kQ U a b (decide ((List.length a.2:Int)<=b)))))
theorem adr:aV Tryz.prog 40:=Tryz.call40
theorem En (U:Nat) {f:cF} {g:Int} (b:Value)  (d:Value)  (m:kH) (r:Int) (h:jP U f g=some r):
  aX Tryz.prog 40 #[Value.agg #[b,d],vI (g)] [Sl bP b f.1,S2 a_ d m f.2] (λx:Unit=>vI (r)) (λx l=>l) (λ_ l=>l):=by
 refine aX.of Tryz.func40 Z Tryz.ntmps40 Z λc=>?_;refine aW<|aG (aN.box (cs:=[b,d]) Z Z) Z λn=>aC Z<|aM<|aK<|aK<|eD (λe=>kQ U f g e=some r) (λe o=>[(1,vI (g)),(2,vP n),(18,vB (e))]) (λe o=>[bV n [b,d] 29]) ?_ ?_
 ·refine aO<|dV 0 Z<|eX h λi k h=>aG (aN.callQ RD (xY U b d m i k) Z (n_ [0,1] Z)) Z λu=>aB (mE Z) Z<|aA Z ?_;refine rW (by exact rfl) (by exact rfl) (λa=>?_) (λa=>?_)
  ·have h:=Ik a h;refine aH Z<|aH Z<|dO Z<|aA Z<|aH Z<|aH Z<|aH Z<|aH Z<|aH Z<|dO Z<|aM ?_;exact gM (true) () h SF Z
  have h:=DY a h;refine cR Z<|aP Z (Gq Z Z) Z<|fI Z<|aA Z ?_;refine Dy h Z (λ_ h=>?_) λ_ h=>?_
  ·refine aH Z<|aH Z<|aH Z<|aH Z<|aH Z<|dO Z<|aM ?_;exact gM (true) () h SF Z
  refine cR Z<|aP Z (dC Z Z Z Z Z) Z<|aP Z (eG 0 Z Z Z Z Z) Z<|aP Z (iY Z (aE.fact 1 Z) Z) Z<|aP Z (B_ Z Z) Z<|fI Z<|aM ?_;exact gM (decide ((List.length f.2:Int)<=g)) () h SF Z
 intro e o h;refine Ab h Z (λ_ h=>?_) λ_ h=>?_
 ·refine aW<|aC Z<|aM<|aU<|aI ?_;cases h;exact sE Z
 refine cK<|aW<|dV 0 Z<|aA Z<|eX h λp s h=>aG (aN.callQ RE (Bm U b d m p s) Z (n_ [0,1] Z)) Z λv=>eX h λq j h=>aG (aN.callQ adC (HY U v q j) Z (aF.cons (bE (aE.res 0 Z) dY) .nil)) Z λt=>aC Z<|aM<|aU ?_;cases h;exact sE Z
def xM (U:Nat) (a:ByteArray) (b:Int) (c:Int) (d:Int):Option ((ByteArray×Int×Int×Int×Int×Int)):=
 some ((a,(1:Int),(0:Int),b,c,d))
theorem WW:aV Tryz.prog 32:=Tryz.call32
theorem Et (U:Nat) {a:ByteArray} {b:Int} {d:Int} {e:Int} (r:Qy) (h:xM U a b d e=some r):
  aX Tryz.prog 32 #[vS (a),vI (b),vI (d),vI (e)] [] (λx:Unit=>Value.agg #[vS (r.1),vI (r.2.1),vI (r.2.2.1),vI (r.2.2.2.1),vI (r.2.2.2.2.1),vI (r.2.2.2.2.2)]) (λx l=>l) (λ_ l=>l):=by
 refine aX.of Tryz.func32 Z Tryz.ntmps32 Z λc=>?_;unfold xM at h;refine aW<|aG (aN.alloc (cs:=vD3) Z Z) Z λf=>aM<|aW<|aA Z<|aA Z<|aA Z<|aA Z ?_;refine aB (Y.bld5 (r:=Value.agg #[vS (a),vI (1:Int),vI (0:Int),vI (b),vI (d),vI (e)]) Z Z Z Z Z (by intro w;simp[Instr.build,Instr.fill,dL,cT,cM,dM,dN,cU,eQ])) Z ?_;refine bQ 0 (vs:=[vS (a),vI (1:Int),vI (0:Int),vI (b),vI (d),vI (e)]) Z Z Z Z Z Z<|aM<|aU ?_;cases h;exact fV () Z Z (RV.cell 0 Z Z Z Z) .nil aF.nil
def Ah (U:Nat) (a:ByteArray):Option ((ByteArray×Int×Int×Int×Int×Int)):=
 some ((a,(3:Int),(0:Int),(0:Int),(0:Int),(0:Int)))
theorem adM:aV Tryz.prog 84:=Tryz.call84
theorem IJ (U:Nat) {a:ByteArray} (r:Qy) (h:Ah U a=some r):
  aX Tryz.prog 84 #[vS (a)] [] (λx:Unit=>Value.agg #[vS (r.1),vI (r.2.1),vI (r.2.2.1),vI (r.2.2.2.1),vI (r.2.2.2.2.1),vI (r.2.2.2.2.2)]) (λx l=>l) (λ_ l=>l):=by
 refine aX.of Tryz.func84 Z Tryz.ntmps84 Z λc=>?_;unfold Ah at h;refine aW<|aG (aN.alloc (cs:=vD3) Z Z) Z λb=>aM<|aW<|aA Z ?_;refine aB (Ct (r:=Value.agg #[vS (a),vI (3:Int),vI (0:Int),vI (0:Int),vI (0:Int),vI (0:Int)]) Z Z (by intro w;simp[Instr.build,Instr.fill,dL,cT,cM,dM,dN,cU,eQ])) Z ?_;refine bQ 0 (vs:=[vS (a),vI (3:Int),vI (0:Int),vI (0:Int),vI (0:Int),vI (0:Int)]) Z Z Z Z Z Z<|aM<|aU ?_;cases h;exact fV () Z Z (RV.cell 0 Z Z Z Z) .nil aF.nil
def GE (U:Nat)  : Option Zh:=
 Option.bind (xM U (ByteArray.mk #[100]) (0:Int) (1:Int) (0:Int)) λa=>(Option.bind (Ah U (ByteArray.mk #[112])) λb=>(some ([(a.1,a.2.1,a.2.2.1,a.2.2.2.1,a.2.2.2.2.1,a.2.2.2.2.2),(b.1,b.2.1,b.2.2.1,b.2.2.2.1,b.2.2.2.2.1,b.2.2.2.2.2)])))
theorem ady:aV Tryz.prog 55:=Tryz.call55
theorem NY (U:Nat)  (r:Zi) (h:GE U  = some r):
  aX Tryz.prog 55 #[] [] (λx:Value=>x) (λx l=>Ar iK x r::l) (λ_ l=>l):=by
 refine aX.of Tryz.func55 Z Tryz.ntmps55 Z λc=>?_;refine aW<|aC Z<|aM<|aW<|eX h λa f h=>aG (aN.callQ WW (Et U  a f) Z .nil) Z λi=>eX h λb g h=>aG (aN.callQ adM (IJ U  b g) Z .nil) Z λj=>aG (bY (e:=iK) ([((a.1,a.2.1,a.2.2.1,a.2.2.2.1,a.2.2.2.2.1,a.2.2.2.2.2)),((b.1,b.2.1,b.2.2.1,b.2.2.2.1,b.2.2.2.2.1,b.2.2.2.2.2))]) [(0,Value.agg #[vS (a.1),vI (a.2.1),vI (a.2.2.1),vI (a.2.2.2.1),vI (a.2.2.2.2.1),vI (a.2.2.2.2.2)]),(1,Value.agg #[vS (b.1),vI (b.2.1),vI (b.2.2.1),vI (b.2.2.2.1),vI (b.2.2.2.2.1),vI (b.2.2.2.2.2)])] Z Z Z Z (Kh (vS (a.1)) (vI (a.2.1)) (vI (a.2.2.1)) (vI (a.2.2.2.1)) (vI (a.2.2.2.2.1)) (vI (a.2.2.2.2.2)) (vS (b.1)) (vI (b.2.1)) (vI (b.2.2.1)) (vI (b.2.2.2.1)) (vI (b.2.2.2.2.1)) (vI (b.2.2.2.2.2))) Z Z Z) Z λd=>aC Z<|aM<|aU ?_;cases h;exact fV (d) Z Z (RV.tmp Z) (aY.refl _) aF.nil
def gU (U:Nat) (a:cF):Option (Bool):=
 Option.bind (jY U ((a.1,a.2)) (0:Int)) λb=>(Option.bind (mS U b) λc=>(some (decide ((0:Int)<=c))))
theorem adD:aV Tryz.prog 64:=Tryz.call64
theorem Hf (U:Nat) {d:cF} (a:Value)  (b:Value)  (e:kH) (r:Bool) (h:gU U d=some r):
  aX Tryz.prog 64 #[Value.agg #[a,b]] [Sl bP a d.1,S2 a_ b e d.2] (λx:Unit=>vB (r)) (λx l=>l) (λ_ l=>l):=by
 refine aX.of Tryz.func64 Z Tryz.ntmps64 Z λc=>?_;refine aW<|aG (aN.box (cs:=[a,b]) Z Z) Z λm=>aC Z<|aM<|aW<|dV 0 Z<|eX h λf i h=>aG (aN.callQ WV (BF U a b e f i) Z (n_ [0,1] Z)) Z λk=>eX h λg j h=>aG (aN.callQ WU (Cm U k g j) Z (aF.cons (bE (aE.res 0 Z) dY) .nil)) Z λn=>aB (B_ Z Z) Z<|aC Z<|aM<|aU ?_;cases h;exact sE Z
def fK (U:Nat) (a:Dw) (d:Int):Option tX:=
 Option.bind (nD U ((a.1,a.2.1,a.2.2.1,a.2.2.2.1,a.2.2.2.2.1,a.2.2.2.2.2)) d) λb=>(Option.bind (nF U ((a.1,a.2.1,a.2.2.1,a.2.2.2.1,a.2.2.2.2.1,a.2.2.2.2.2)) ((b.1,b.2))) λc=>(some ((c.1,c.2))))
theorem agB:aV Tryz.prog 7:=Tryz.call7
theorem Ck (U:Nat) {a:Dw} {o:Int} (d:Value)  (e:Value)  (f:Value) (r:(aS×fP)) (h:fK U a o=some r):
  aX Tryz.prog 7 #[Value.agg #[vI (a.1),d,e,f,vB (a.2.2.2.2.1),vB (a.2.2.2.2.2)],vI (o)] [Sl bP d a.2.1,Sl bP e a.2.2.1,Sl bP f a.2.2.2.1] (λx:Value×Value×List Value=>Value.agg #[x.1,x.2.1]) (λx l=>Ar b_ x.1 r.1::Ar cZ.raw x.2.1 x.2.2::lD cB x.2.2 r.2::l) (λ_ l=>l):=by
 refine aX.of Tryz.func7 Z Tryz.ntmps7 Z λc=>?_;refine aW<|aG (aN.box (cs:=[vI (a.1),d,e,f,vB (a.2.2.2.2.1),vB (a.2.2.2.2.2)]) Z Z) Z λp=>aG (aN.alloc (cs:=[lF,lF]) Z Z) Z λq=>aM<|aK ?_;refine JR.start [0,0,0,6,15,31] 4 mixedOrders (by decide +kernel) ?_;refine JR.open (by exact rfl) ?_;refine mA 1 Z<|mA 1 Z<|bF Z<|eX h λn t h=>JR.loud Z Z Z (aN.callQ WR (Bg U d e f n t) Z (n_ [0,1,2] Z)) Z (λb=>(t_ [([4],[])] Z)) λb=>bM 4 Z Z<|eX h λs u h=>aG (Fy (Min:=[Ar b_ b.1 n.1,Ar cZ.raw b.2.1 b.2.2,lD cB b.2.2 n.2]) (Mr:=[bV q [lF,lF] 29,bV p [vI (a.1),d,e,f,vB (a.2.2.2.2.1),vB (a.2.2.2.2.2)] 24]) adm (FU U d e f b.1 b.2.1 b.2.2 s u) Z (aY.refl _) (n_ [0,1,2] Z) (λ_ _=>rfl)) Z λk=>cD (Know.one ((bE (aE.res 0 Z) dY))) λm=>cD (Know.one (aE.sl (bT (i:=1) (j:=2) Z Z bR))) λg=>bQ 3 (vs:=[k.1,k.2.1]) Z Z (lH m (lH g Z)) Z Z Z<|aM<|aU ?_;cases h;exact fV (k.1,k.2.1,k.2.2) Z Z (RV.cell 3 Z Z Z Z) (aY.ix [0,1,2] Z Z) aF.nil
def iC (U:Nat) (a:cF) (b:Int):Option (Int):=
 Option.bind (jY U ((a.1,a.2)) b) λc=>(Option.bind (mS U c) λd=>(some (d)))
theorem agC:aV Tryz.prog 8:=Tryz.call8
theorem Es (U:Nat) {d:cF} {e:Int} (a:Value)  (b:Value)  (f:kH) (r:Int) (h:iC U d e=some r):
  aX Tryz.prog 8 #[Value.agg #[a,b],vI (e)] [Sl bP a d.1,S2 a_ b f d.2] (λx:Unit=>vI (r)) (λx l=>l) (λ_ l=>l):=by
 refine aX.of Tryz.func8 Z Tryz.ntmps8 Z λc=>?_;refine aW<|aG (aN.box (cs:=[a,b]) Z Z) Z λn=>aC Z<|aM<|aW<|dV 0 Z<|aA Z<|eX h λg j h=>aG (aN.callQ WV (BF U a b f g j) Z (n_ [0,1] Z)) Z λm=>eX h λi k h=>aG (aN.callQ WU (Cm U m i k) Z (aF.cons (bE (aE.res 0 Z) dY) .nil)) Z λo=>aC Z<|aM<|aU ?_;cases h;exact sE Z
def zT (U:Nat) (a:cF):Option (Int):=
 ck (0<=(List.length a.1:Int)) (some (wI .u32 ((Cv .u32 (1:Int) (List.length a.1:Int)) - (1:Int))))
theorem adL:aV Tryz.prog 80:=Tryz.call80
theorem Qp (U:Nat) {a:cF} (b:Value)  (d:Value)  (f:kH) (r:Int) (h:zT U a=some r):
  aX Tryz.prog 80 #[Value.agg #[b,d]] [Sl bP b a.1,S2 a_ d f a.2] (λx:Unit=>vU (r)) (λx l=>l) (λ_ l=>l):=by
 refine aX.of Tryz.func80 Z Tryz.ntmps80 Z λc=>?_;refine aW<|aG (aN.box (cs:=[b,d]) Z Z) Z λg=>aC Z<|aM<|aW<|bU Z<|dK 0 Z<|jB (aE.fact 0 Z) Z<|dD h λe h=>aB (OZ Z Z e) Z<|aB (oC Z Z) Z<|aC Z<|aM<|aU ?_;cases h;exact sE Z
def Ac  (a:Unit):Option (Int):=
 some (-1:Int)
def uZ (c:cF) (d:Int) (e:Int) (a:Int) (b:(Int)->Option (Int)):Option (Int):=
 if a<(List.length (at' c.2 d):Int)then(ck (0<=a∧a<(List.length (at' c.2 d):Int)) (if((at' (at' c.2 d) a).1)=e then(some (a))else(b (wI .i64 (a+(1:Int))))))else(Ac  (()))
def nG (U:Nat) (b:cF) (a:Int) (c:Int):Option (Int):=
 ck (0<=a∧a<(List.length b.2:Int)) (bI (uZ b a c) U (0:Int))
theorem Xc:aV Tryz.prog 92:=Tryz.call92
theorem Eo (U:Nat) {a:cF} {b:Int} {i:Int} (j:Value)  (k:Value)  (o:kH) (r:Int) (h:nG U a b i=some r):
  aX Tryz.prog 92 #[Value.agg #[j,k],vI (b),vI (i)] [Sl bP j a.1,S2 a_ k o a.2] (λx:Unit=>vI (r)) (λx l=>l) (λ_ l=>l):=by
 refine aX.of Tryz.func92 Z Tryz.ntmps92 Z λc=>?_;refine aW<|aG (aN.box (cs:=[j,k]) Z Z) Z λq=>aC Z<|aM<|aK<|eD (λg=>Ac  g=some r) (λg m=>[]) (λg m=>[]) ?_ ?_
 ·refine aW<|bU Z<|dK 0 Z<|aA Z<|dD h λe h=>aB (cH Z Z (aE.fact 1 Z) Z Z e) Z<|aB (cG Z (aE.fact 1 Z) Z Z e) Z<|aB (gW Z (aE.el (aE.fact 1 Z) e.1 e.2) Z) Z<|aA Z<|aM<|aT<|dZ (uZ a b i) (λd n=>[(2,vI (i)),(13,(at' o b).1),(14,vI (List.length (at' a.2 b):Int)),(15,vI (d))]) (λd n=>[]) (0:Int) () h SF .nil ?_;intro s d n h;refine aW<|cO Z<|aM<|aK ?_;refine fE h Z (λh=>?_) λh=>?_
  ·refine cK<|aK<|aT<|aW<|aA Z<|dD h λf h=>aB (aZ Z Z (aE.el (aE.fact 1 Z) e.1 e.2) Z Z f) Z<|aB (iM (cs:=[vI ((at' (at' a.2 b) d).1),vI ((at' (at' a.2 b) d).2)]) Z (aE.el (aE.fact 1 Z) e.1 e.2) bR Z Z Z Z f) Z<|aG (aN.alloc (cs:=Uv) Z Z) Z λp=>aC Z<|bQ 0 (vs:=[vI ((at' (at' a.2 b) d).1),vI ((at' (at' a.2 b) d).2)]) Z Z Z Z Z Z<|aM<|aW<|bU Z<|dK 0 Z<|aA Z<|cP Z<|aM ?_;refine fE h Z (λh=>?_) λh=>?_
   ·refine aW<|aA Z<|aC Z<|aM<|aU<|bL<|aI<|aI<|bL<|aI ?_;cases h;exact sE Z
   refine dW<|mQ<|aO<|cI Z<|aA Z<|aM ?_;exact lK (wI .i64 (d+(1:Int))) () h SF .nil (aF.refl _ _)
  refine fH ?_;exact gM () (()) h SF Z
 intro g m h;unfold Ac at h;refine aW<|aC Z<|aM<|aU ?_;cases h;exact kV Z
end Go.Proofs.YtmdlcmbplnhdnaaGreatDoor