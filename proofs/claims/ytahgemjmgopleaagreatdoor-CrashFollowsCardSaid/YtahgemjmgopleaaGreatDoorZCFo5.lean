/- Models and proofs. Conditions: none. -/
import Derived.Test.YtahgemjmgopleaaGreatDoorZCFo4
import Derived.Test.YtahgemjmgopleaaGreatDoorZCFo2
set_option linter.unusedVariables false
set_option linter.unusedSimpArgs false
set_option maxHeartbeats 4000000
set_option maxRecDepth 20000
namespace Go.Gx
open Go Go.Sx
noncomputable section
def afb {a:Type} (c:Nat) (d:List GV->Option a) (n:Nat):List GV->Option (List a):=Nat.rec (motive:=λ_=>List GV->Option (List a)) (λ_=>some []) (λ_ e b=>ob (d (b.take c)) λy=>ob (e (b.drop c)) λf=>some (y::f)) n
def MD {b:Type} (H:GH) (a:Nat) (d:List GV->Option b) (v:GV):Option (List b):=ob (vK H a v) λp=>bif Nat.ble p.1 1099511627776 then afb a d p.1 p.2 else none
def dI (k:IntKind) (a:List GV):Option Int:=List.casesOn (motive:=λ_=>Option Int) a none λc r=>List.casesOn (motive:=λ_=>Option Int) r (ob c.asI λp=>bif decide (p.1=k)then some p.2 else none) λ_ _=>none
def dP {b c:Type} (n:Nat) (d:List GV->Option b) (e:List GV->Option c) (a:List GV):Option (b×c):=ob (d (a.take n)) λx=>ob (e (a.drop n)) λy=>some (x,y)
def dS {a:Type} (H:GH) (e:Nat) (d:List GV->Option a) (b:List GV):Option (List a):=List.casesOn (motive:=λ_=>Option (List a)) b none λc r=>List.casesOn (motive:=λ_=>Option (List a)) r (MD H e d c) λ_ _=>none
end
section
variable {P:Program} {gs:BV} {w0:fR gs} {w:World} {ρ:fC} {H:GH} {S:Nat->Prop}
def All (_:Nat):Prop:=True
def eT {b c:Type} (S:Nat->Prop) (ρ:fC) (w:World) (d:List GV->Option c) (r:gA b) (e:b->c):Prop:=∀gs a y,pO ρ gs a->d gs=some y->gs.length=r.sz->∃z,e z=y∧r.R w S a z
theorem eT.int (k:IntKind):eT S ρ w (dI k) (gA.int k) id:=λgs f y b h _=>by
 cases gs with
 |nil=>cases h
 |cons c gs=>
 cases gs with
 |cons _ _=>cases h
 |nil=>
 obtain⟨p,e,h⟩:=aF.1 (show ob c.asI _=some y from h);obtain⟨a,h⟩:=bW.1 h;cases h;obtain⟨v,f,rfl,d,b⟩:=b.of_cons;rw[b.of_nil];rw[pA e]at d;rw[d.int_inv];have a:=zBg a;exact⟨p.2,rfl,by rw[a];rfl⟩
theorem eT.pair {q t b c:Type} {d:List GV->Option b} {e:List GV->Option c} {r:gA q} {s:gA t} {m:q->b} {n:t->c} (u:eT S ρ w d r m) (A:eT S ρ w e s n):eT S ρ w (dP r.sz d e) (gA.pair r s) (λz=>(m z.1,n z.2)):=λgs l y f h p=>by
 obtain⟨x,B,h⟩:=aF.1 (show ob (d (gs.take r.sz)) _=some y from h);obtain⟨F,j,h⟩:=aF.1 h;cases h;have p:gs.length=r.sz+s.sz:=p;have E:=f.len;obtain⟨z,rfl,C⟩:=u _ (l.take r.sz) _ (by simpa using f.sub 0 r.sz) B (by simp;omega);obtain⟨D,rfl,k⟩:=A _ (l.drop r.sz) _ ⟨by simp;omega,λi g v o a=>by rw[zAs]at o a;exact f.at' _ _ _ o a⟩ j (by simp;omega);exact⟨(z,D),rfl,_,_,(List.take_append_drop r.sz l).symm,C,k⟩
theorem VB {C D:Type} {d:List GV->Option D} {r:gA C} {E:C->D} (F:eT S ρ w d r E) (b:Nat):∀(n:Nat) (f:List GV) (m:List Value) (a:Nat) (l:List D),afb r.sz d n f=some l->pO ρ f m->f.length=n*r.sz->(∀(j:Nat) x,m[j]? = some x->w.cell? ⟨b,a+j,none⟩=some x)->
  ∃p:List C,p.map E=l∧p.length=n∧∀(i:Nat) z,p[i]? = some z->∃q,(∀(j:Nat) e,q[j]? = some e->w.cell? ⟨b,a+(i*r.sz+j),none⟩=some e)∧r.R w S q z
 |0,f,m,a,l,h,hr,hl,hc=>by
  cases h;exact⟨[],rfl,rfl,λi z t=>by simp at t⟩
 | n + 1, f, m, a, l, h, hr, hl, hc => by
  obtain⟨y,M,h⟩:=aF.1 (show ob (d (f.take r.sz)) (λy=>ob (afb r.sz d n (f.drop r.sz)) λl=>some (y::l))=some l from h);obtain⟨B,s,h⟩:=aF.1 h;cases h;rw[Nat.succ_mul]at hl;have O:=hr.len;obtain⟨z,rfl,t⟩:=F _ (m.take r.sz) _ (by simpa using hr.sub 0 r.sz) M (by simp;omega);obtain⟨p,rfl,u,A⟩:=VB F b n (f.drop r.sz) (m.drop r.sz) (a+r.sz) B s ⟨by simp;omega,λi g v G o=>by rw[zAs]at G o;exact hr.at' _ _ _ G o⟩ (by simp;omega) (λj x J=>by
   rw[zAs]at J;rw[Nat.add_assoc];exact hc _ _ J)
  refine⟨z::p,rfl,by simp[u],λi N c=> ?_⟩
  cases i with
  | zero =>
   simp at c;subst c;refine⟨_,λj e k=> ?_,t⟩
   rw[zAr]at k;by_cases I:j<r.sz
   ·rw[if_pos I]at k;have:=hc j e k;simpa using this
   ·rw[if_neg I]at k;cases k
  |succ i=>
   simp at c;obtain⟨q,K,L⟩:=A i N c;refine⟨q,λj e k=> ?_,L⟩
   have:=K j e k;rw[Nat.succ_mul];rw[show a+(i*r.sz+r.sz+j)=a+r.sz+(i*r.sz+j) by omega];exact this
theorem Sj (R:gH w0 ρ H w) {v:GV} {V:Value} {B:Nat} {p:Nat×List GV} (t:Rl ρ v V) (h:vK H B v=some p):
  p.2.length=p.1*B∧∃a c,V = .slice a p.1 c∧p.1<=c∧(p.1=0∨∃b i o,a=some ⟨b,i,none⟩∧w0.mine b∧pO ρ p.2 o∧∀(j:Nat) x,o[j]? = some x->w.cell? ⟨b,i+j,none⟩=some x):=by
 obtain⟨o,C⟩:=Fb R t h;refine⟨by rw[C.rel.len,C.len],?_⟩
 obtain⟨f,c,y,D,F⟩:=C.val;refine⟨f,c,y,D,?_⟩
 rcases F with⟨_,m,_⟩|⟨A,rfl,d⟩
 ·exact .inl m
 ·by_cases m:p.1=0
  ·exact .inl m
  ·refine .inr ?_;unfold vK at h;cases z:v.isSnil with
   |true=>rw[z]at h;cases h;exact absurd Z m
   | false =>
    rw[z]at h;obtain⟨s,I,h⟩:=aF.1 (show ob v.asS _=some p from h);rw[DX I,y]at t;obtain⟨l,u,K,G,e,E,n⟩:=t.sl_inv;injection e with k M N;injection k with k;rcases n with n|⟨n,_⟩
    ·omega
    ·rw[n]at k;subst k;have r:w0.mine l.b:=by
      obtain⟨_,h⟩:=bW.1 h;obtain⟨L,q,_⟩:=aF.1 h;obtain⟨O,g,r,_⟩:=R.live _ _ (jL.1 q);rw[G]at g;cases g;exact r
     exact⟨l.b,l.off+s.2.1,o,rfl,r,C.rel,λj x J=>by have:=d j x J;rwa[fT]at this⟩
theorem CG {m n:Type} {d:List GV->Option n} {r:gA m} {o:m->n} (R:gH w0 ρ H w) (t:∀k,w0.mine k->S k) (u:eT S ρ w d r o) {v:GV} {V:Value} {j:List n} (B:Rl ρ v V) (h:MD H r.sz d v=some j):∃l:List m,l.map o=j∧PE r w S V l:=by
 obtain⟨p,z,h⟩:=aF.1 (show ob (vK H r.sz v) _=some j from h);obtain⟨g,h⟩:=bW.1 h;have g:p.1<=1099511627776:=by simpa using g
 obtain⟨i,a,f,rfl,E,x⟩:=Sj R B z;rcases x with q|⟨b,e,D,rfl,y,A,c⟩
 ·rw[q]at h;cases h;exact⟨[],rfl,a,f,by rw[q];rfl,by simp,.inl Z⟩
 ·obtain⟨l,rfl,s,C⟩:=VB u b p.1 p.2 D e j h A i c;exact⟨l,rfl,some ⟨b,e,none⟩,f,by rw[s],by rw[s];omega,.inr ⟨b,e,rfl,t b y,C⟩⟩
theorem eT.sl {e f:Type} {d:List GV->Option f} {r:gA e} {b:e->f} (R:gH w0 ρ H w) (g:∀k,w0.mine k->S k) (i:eT S ρ w d r b):eT S ρ w (dS H r.sz d) (gA.sl r) (λz=>z.2.map b):=λgs vs y a h n=>by
 cases gs with
 |nil=>cases h
 |cons c gs=>
 cases gs with
 |cons _ _=>cases h
 |nil=>
 have h:MD H r.sz d c=some y:=h;obtain⟨v,vs,rfl,j,a⟩:=a.of_cons;rw[a.of_nil];obtain⟨m,rfl,l⟩:=CG R g i j h;exact⟨(v,m),rfl,rfl,l⟩
end
noncomputable section
def yB {c:Type} (e:Nat) (g:c->List GV) (a:List (List c)):GH->List GV×GH:=List.rec (motive:=λ_=>GH->List GV×GH) (λH=>([],H)) (λb _ d H=>let r:=d (H.new (.cells (b.flatMap g)));(.sl H.n 0 b.length e::r.1,r.2)) a
end
section
variable {P:Program} {gs:BV} {w0:fR gs} {w:World} {ρ:fC} {H:GH}
def Gd (ρ:fC) (H:GH) (B:Nat->Prop):Prop:=∀h o l,H.get h=some o->ρ h=some l->¬B l.b
theorem Gd.mono {B b:Nat->Prop} (h:Gd ρ H B) (f:∀k,b k->B k):Gd ρ H b:=λa o l c d e=>h a o l c d (f _ e)
theorem Gd.start (R:gH w0 ρ H w):Gd ρ H (λk=>w.heap.size<=k):=λh o l b c e=>by
 obtain⟨f,a,_,d⟩:=R.live h o b;rw[c]at a;cases a;have:=d.lt;omega
theorem Hn {N:Type} {e:eO N} {d:List N} {cs:List GV} {v:Value} {B F:Nat->Prop} (R:gH w0 ρ H w) (A:Gd ρ H B) (U:∀k,B k->w0.mine k) (s:∀k,F k->B k) (V:Ge e w F v d) (E:d≠[]) (t:pO ρ cs (cellsOf e d)):
  ∃f,ρ.le f∧gH w0 f (H.new (.cells cs)) w∧Rl f (.sl H.n 0 d.length e.sz) v∧Gd f (H.new (.cells cs)) (λk=>B k∧¬F k):=by
 obtain⟨_,y,W⟩:=V;rcases W with⟨_,S⟩|⟨b,p,r,T,c,rfl,C,I,D,G,a⟩
 ·exact absurd S E
 have M:(cellsOf e d).length=d.length*e.sz:=by
  rw[<-a];simp;have:d.length*e.sz<=r*e.sz:=zB9 _ D;omega
 have u:ρ.le (ρ.upd H.n ⟨b,p,c.size,.cells c T (0,0),.cells cs⟩):=Bc (R.fresh _ (zAd _));have J:d.length*e.sz<=r*e.sz:=zB9 _ D;obtain⟨_,O⟩:=R.new (o:= .cells cs) (l:=⟨b,p,c.size,.cells c T (0,0),.cells cs⟩) R.ext (λh o' Y j m=>⟨rfl,λQ=>A h o' Y j m (by rw[Q];exact s _ C)⟩) (U _ (s _ C)) ⟨c,T,I,rfl,by
   show p+cs.length<=c.size;have:=t.len;omega,λi g j=>by
   obtain⟨x,q,X⟩:=t.get j;refine⟨x,?_,X.le u,zA4.1 y x (zAq q)⟩
   rw[<-a,zAr]at q;by_cases K:i<d.length*e.sz
   ·rw[if_pos K,zAs,zAe]at q;exact q
   ·rw[if_neg K]at q;cases q⟩ I
 refine⟨_,u,O,.sl (by simp[fC.upd];rfl) D (.inr ⟨rfl,G⟩),λh o l j m L=> ?_⟩
 rw[rX]at j;by_cases z:h=H.n
 ·rw[z]at m;simp[fC.upd]at m;subst m;exact L.2 C
 ·rw[if_neg z]at j;simp only[fC.upd,if_neg z]at m;exact A h o l j m L.1
theorem LS {b:Type} {e:eO b} {g:b->List GV} (c:∀x,pO ρ (g x) (e.enc x)):∀a:List b,pO ρ (a.flatMap g) (cellsOf e a)
 | []=> .nil
 |x::a=>(c x).append (LS c a)
theorem MV {o:Type} {e:eO o} {g:o->List GV} (r:∀ρ x,pO ρ (g x) (e.enc x)):∀(a:List (List o)) (vs:List Value) (G:Nat->Nat->Prop) (B:Nat->Prop) (ρ:fC) (H:GH),gH w0 ρ H w->Gd ρ H B->(∀k,B k->w0.mine k)->vs.length=a.length->
  (∀xs∈a,xs≠[])->(∀i v xs,vs[i]? = some v->a[i]? = some xs->Ge e w (G i) v xs)->(∀i k,G i k->B k)->(∀i j k,G i k->G j k->i=j)->
  ∃c,ρ.le c∧gH w0 c (yB e.sz g a H).2 w∧pO c (yB e.sz g a H).1 vs∧Gd c (yB e.sz g a H).2 (λk=>B k∧∀i,¬G i k)
 | [],vs,G,B,ρ,H,R,A,hB,hl,_,h1,h2,h3=>by
  have:vs=[]:=zAp hl;subst this;exact⟨ρ,fC.le_refl _,R,.nil,A.mono λk b=>b.1⟩
 |xs::a,[],G,B,ρ,H,R,A,hB,hl,_,h1,h2,h3=>by simp at hl
 |xs::a,v::vs,G,B,ρ,H,R,A,hB,hl,hne,h1,h2,h3=>by
  obtain⟨p,f,u,F,s⟩:=Hn R A hB (h2 0) (h1 0 v xs Z Z) (hne xs (by simp)) (LS (r ρ) xs);obtain⟨q,d,z,l,t⟩:=MV r a vs (λi=>G (i+1)) _ p _ u s (λk b=>hB k b.1) (by simpa using hl) (λy I=>hne y (by simp[I])) (λi J n h m=>h1 (i+1) J n (by simpa using h) (by simpa using m)) (λi k b=>⟨h2 _ k b,λC=>by have:=h3 _ _ k b C;omega⟩) (λi j k D E=>by have:=h3 _ _ k D E;omega);refine⟨q,fC.le_trans f d,z,.cons (F.le d) l,t.mono λk b=>⟨⟨b.1,b.2 0⟩,λi=>b.2 (i+1)⟩⟩
theorem Pb:∀vs:List Value,cellsOf eO.raw vs=vs
 | []=>rfl
 |v::vs=>by show v::cellsOf eO.raw vs=_;rw[Pb vs]
end
section
variable {P:Program} {gs:BV} {w0:fR gs} {w:World} {ρ:fC} {H:GH}
theorem Fh {f:Nat} {a:List Value} {L:List bJ} {V:Value} {g:GV} (c:aU P f) (d:aW P f a.toArray L (λ_:Unit=>V) (λ_ l=>l) (λ_ l=>l)) (R:gH w0 ρ H w) (b:∀h∈L,h.p w All) (i:∀ρ,Rl ρ g V):jR P w0 ρ f a w g H:=by
 refine .inr ⟨c _ w,(d w All b).mono ?_⟩;rintro e j ⟨_,rfl,t⟩;exact⟨V,ρ,rfl,fC.le_refl _,R.ext' t.old.ext,i _⟩
theorem acV {j:Type} {e:eO j} {g:j->List GV} (E:∀ρ x,pO ρ (g x) (e.enc x)) {f:Nat} {q:List Value} {L:List bJ} {r:List j} (d:r≠[]) (D:aU P f) (G:aW P f q.toArray L (λx:Value=>x) (λx l=>Ar e x r::l) (λ_ l=>l)) (R:gH w0 ρ H w) (C:∀h∈L,h.p w All):
  jR P w0 ρ f q w (.sl H.n 0 r.length e.sz) (H.new (.cells (r.flatMap g))):=by
 refine .inr ⟨D _ w,(G w All C).mono ?_⟩;rintro e J ⟨x,rfl,t⟩;obtain⟨F,O,_⟩:=t.own;have v:Ge _ J (F 0) x r:=O.res 0 _ Z;have s:=R.ext' t.old.ext;have A:∀i k,F i k->w.heap.size<=k:=λi k b=>by
  rcases(O.rng i k b).1 with h|h
  ·exact h
  exact h.elim
 obtain⟨m,c,u,I,_⟩:=Hn (B:=λk=>w.heap.size<=k) s (λa o l y z=>Gd.start R a o l y z) (λk b=> .inl (zB3 R.ext.size b)) (A 0) v d (LS (E ρ) r);exact⟨x,m,rfl,c,u,I⟩
theorem Ux {V W:Type} {e:eO V} {g:V->List GV} {q:eO W} {s:W->List GV} (hg:∀ρ x,pO ρ (g x) (e.enc x)) (I:∀ρ x,pO ρ (s x) (q.enc x)) {f:Nat} {S:List Value} {L:List bJ} {r:List V×List (List W)} (C:r.1≠[]) (D:r.2≠[]) (h3:∀U∈r.2,U≠[]) (hb:aU P f)
  (hm:aW P f S.toArray L (λx:Value×Value×List Value=>Value.agg #[x.1,x.2.1]) (λx l=>Ar e x.1 r.1::Ar eO.raw x.2.1 x.2.2::jM q x.2.2 r.2::l) (λ_ l=>l)) (R:gH w0 ρ H w) (hL:∀h∈L,h.p w All):
  jR P w0 ρ f S w (.agg [.sl H.n 0 r.1.length e.sz,.sl (yB q.sz s r.2 (H.new (.cells (r.1.flatMap g)))).2.n 0 r.2.length 1]) ((yB q.sz s r.2 (H.new (.cells (r.1.flatMap g)))).2.new (.cells (yB q.sz s r.2 (H.new (.cells (r.1.flatMap g)))).1)):=by
 refine .inr ⟨hb _ w,(hm w All hL).mono ?_⟩;rintro en A ⟨x,rfl,t⟩;obtain⟨F,O,_⟩:=t.own;have q0:Ge _ A (F 0) x.1 r.1:=O.res 0 _ Z;have q1:Ge eO.raw A (F 1) x.2.1 x.2.2:=O.res 1 _ Z;obtain⟨z,G,q2,Q,q4⟩:(jM q x.2.2 r.2).p A (F 2):=O.res 2 _ Z;have R':=R.ext' t.old.ext;have E:∀i k,F i k->w.heap.size<=k:=λi k c=>by
  rcases(O.rng i k c).1 with h|h
  ·exact h
  exact h.elim
 obtain⟨X,y,R1,K,A1⟩:=Hn (B:=λk=>w.heap.size<=k) R' (λa o l C D=>Gd.start R a o l C D) (λk c=> .inl (zB3 R.ext.size c)) (E 0) q0 C (LS (hg ρ) r.1);obtain⟨ad,j,R2,M,A2⟩:=MV I r.2 x.2.2 G _ X _ R1 A1 (λk c=> .inl (zB3 R.ext.size c.1)) z h3 q2 (λi k c=>⟨E _ _ (Q i k c),λu=>by have:=O.dis _ _ k (Q i k c) u;omega⟩) q4;have J:x.2.2≠[]:=λu=>by rw[u]at z;exact D (zAp z.symm)
 obtain⟨Y,m,R3,N,_⟩:=Hn (cs:=(yB q.sz s r.2 (H.new (.cells (r.1.flatMap g)))).1) (F:=F 1) R2 A2 (λk c=> .inl (zB3 R.ext.size c.1.1)) (λk c=>⟨⟨E _ _ c,λu=>by have:=O.dis _ _ k c u;omega⟩,λi hi=>by have:=O.dis _ _ k c (Q i k hi);omega⟩) q1 J (by rw[Pb];exact M);refine⟨_,Y,rfl,fC.le_trans y (fC.le_trans j m),R3,?_⟩
 refine IW (vs:=[x.1,x.2.1]) (.cons ((K.le j).le m) (.cons (by rw[<-z];exact N) .nil)) λv hv=>?_;have d:∀{γ:Type} {e:eO γ} {F:Nat->Prop} {v:Value} {U:List γ},Ge e A F v U->one v=true:=λh=>by
  obtain⟨_,_,h⟩:=h;rcases h with⟨rfl,_⟩|⟨b,ac,aa,T,ab,rfl,_⟩<;>rfl
 simp at hv;rcases hv with rfl|rfl
 ·exact d q0
 exact d q1
end
noncomputable section
def OE (H:GH) (v:GV):Option (List Int):=MD H 1 (dI .i64) v
def Zd (H:GH) (v:GV):Option (List (List (Int×Int))):=MD H 1 (dS H 2 (dP 1 (dI .i64) (dI .i64))) v
def Zc (H:GH) (v:GV):Option (List (List Int)):=MD H 1 (dS H 1 (dI .i64)) v
def Qh (H:GH) (v:GV):Option (List Int×List (List (Int×Int))):=ob v.asA λc=>List.casesOn (motive:=λ_=>Option (List Int×List (List (Int×Int)))) c none λa r=>List.casesOn (motive:=λ_=>Option (List Int×List (List (Int×Int)))) r none λb r=>List.casesOn (motive:=λ_=>Option (List Int×List (List (Int×Int)))) r (ob (OE H a) λx=>ob (Zd H b) λy=>some (x,y)) λ_ _=>none
end
section
variable {P:Program} {gs:BV} {w0:fR gs} {w:World} {ρ:fC} {H:GH}
theorem Jd (R:gH w0 ρ H w) {v:GV} {V:Value} {a:List Int} (b:Rl ρ v V) (h:OE H v=some a):(Sl (gA.int .i64) V a).p w All:=by
 obtain⟨d,rfl,c⟩:=CG R (λ_ _=>trivial) (eT.int .i64) b h;rw[List.map_id];exact c
theorem Sk (R:gH w0 ρ H w) {v:GV} {V:Value} {b:List (List Int)} (c:Rl ρ v V) (h:Zc H v=some b):∃a,(S2 (gA.int .i64) V a b).p w All:=by
 obtain⟨a,rfl,d⟩:=CG R (λ_ _=>trivial) (eT.sl R (λ_ _=>trivial) (eT.int .i64)) c h;exact⟨a,d,by simp⟩
theorem Xd (R:gH w0 ρ H w) {v:GV} {V:Value} {b:List (List (Int×Int))} (c:Rl ρ v V) (h:Zd H v=some b):∃a,(S2 (gA.pair (gA.int .i64) (gA.int .i64)) V a b).p w All:=by
 obtain⟨a,rfl,d⟩:=CG R (λ_ _=>trivial) (eT.sl R (λ_ _=>trivial) (eT.pair (eT.int .i64) (eT.int .i64))) c h;exact⟨a,d,by simp⟩
theorem Kh (R:gH w0 ρ H w) {v:GV} {V:Value} {p:List Int×List (List (Int×Int))} (j:Rl ρ v V) (h:Qh H v=some p):∃e f i,V = .agg #[e,f]∧(Sl (gA.int .i64) e p.1).p w All∧(S2 (gA.pair (gA.int .i64) (gA.int .i64)) f i p.2).p w All:=by
 obtain⟨c,g,h⟩:=aF.1 (show ob v.asA _=some p from h);rw[Ms g]at j;obtain⟨k,rfl,d,_⟩:=j.agg_inv;cases c with
 |nil=>cases h
 |cons a c=>
 cases c with
 |nil=>cases h
 |cons b c=>
 cases c with
 |cons _ _=>cases h
 |nil=>
 obtain⟨x,n,h⟩:=aF.1 (show ob (OE H a) _=some p from h);obtain⟨y,o,h⟩:=aF.1 h;cases h;obtain⟨e,k,rfl,l,d⟩:=d.of_cons;obtain⟨f,k,rfl,m,d⟩:=d.of_cons;rw[d.of_nil];obtain⟨i,q⟩:=Xd R m o;exact⟨e,f,i,rfl,Jd R l n,q⟩
end
noncomputable section
section
variable {α R:Type}
def a0 (a:List α) (k:Option R):Option R:=List.casesOn (motive:=λ_=>Option R) a k (λ_ _=>none)
def a1 (b:List α) (k:α->Option R):Option R:=List.casesOn (motive:=λ_=>Option R) b none λa r=>a0 r (k a)
def a2 (b:List α) (k:α->α->Option R):Option R:=List.casesOn (motive:=λ_=>Option R) b none λa r=>a1 r (k a)
def a3 (b:List α) (k:α->α->α->Option R):Option R:=List.casesOn (motive:=λ_=>Option R) b none λa r=>a2 r (k a)
def a4 (us:List α) (k:α->α->α->α->Option R):Option R:=List.casesOn (motive:=λ_=>Option R) us none λa r=>a3 r (k a)
def a5 (us:List α) (k:α->α->α->α->α->Option R):Option R:=List.casesOn (motive:=λ_=>Option R) us none λa r=>a4 r (k a)
def a6 (b:List α) (k:α->α->α->α->α->α->Option R):Option R:=List.casesOn (motive:=λ_=>Option R) b none λa r=>a5 r (k a)
theorem abp {a:List α} {k:Option R} {r:R} (h:a0 a k=some r):a=[]∧k=some r:=by
 cases a with
 |nil=>exact⟨rfl,h⟩
 |cons _ _=>cases h
theorem Ve {a:List α} {k:α->Option R} {r:R} (h:a1 a k=some r):∃x,a=[x]∧k x=some r:=by
 cases a with
 |nil=>cases h
 |cons x a=>obtain⟨rfl,h⟩:=abp h;exact⟨x,rfl,h⟩
theorem Vf {a:List α} {k:α->α->Option R} {r:R} (h:a2 a k=some r):∃x y,a=[x,y]∧k x y=some r:=by
 cases a with
 |nil=>cases h
 |cons x a=>obtain⟨y,rfl,h⟩:=Ve h;exact⟨x,y,rfl,h⟩
theorem PH {a:List α} {k:α->α->α->Option R} {r:R} (h:a3 a k=some r):∃x y z,a=[x,y,z]∧k x y z=some r:=by
 cases a with
 |nil=>cases h
 |cons x a=>obtain⟨y,z,rfl,h⟩:=Vf h;exact⟨x,y,z,rfl,h⟩
theorem PI {a:List α} {k:α->α->α->α->Option R} {r:R} (h:a4 a k=some r):∃x y z u,a=[x,y,z,u]∧k x y z u=some r:=by
 cases a with
 |nil=>cases h
 |cons x a=>obtain⟨y,z,u,rfl,h⟩:=PH h;exact⟨x,y,z,u,rfl,h⟩
theorem abq {a:List α} {k:α->α->α->α->α->Option R} {r:R} (h:a5 a k=some r):∃x y z u v,a=[x,y,z,u,v]∧k x y z u v=some r:=by
 cases a with
 |nil=>cases h
 |cons x a=>obtain⟨y,z,u,v,rfl,h⟩:=PI h;exact⟨x,y,z,u,v,rfl,h⟩
theorem abr {a:List α} {k:α->α->α->α->α->α->Option R} {r:R} (h:a6 a k=some r):∃x y z u v w,a=[x,y,z,u,v,w]∧k x y z u v w=some r:=by
 cases a with
 |nil=>cases h
 |cons x a=>obtain⟨y,z,u,v,w,rfl,h⟩:=abq h;exact⟨x,y,z,u,v,w,rfl,h⟩
end
def Ze (k:IntKind) (v:GV):Option Int:=ob v.asI λp=>bif eqK p.1 k then some p.2 else none
def Zg (H:GH) (v:GV):Option (List Int):=MD H 1 (dI .u32) v
def ahg (H:GH) (v:GV):Option (Int×List Int×List Int×List Int×Bool×Bool):=ob v.asA λg=>a6 g λa b c d e f=>ob (Ze .i64 a) λn=>ob (OE H b) λx=>ob (OE H c) λy=>ob (OE H d) λz=>ob e.asB λp=>ob f.asB λq=>some (n,x,y,z,p,q)
def gI (n:Int):List GV:=[.int .i64 n]
def gP (p:Int×Int):List GV:=[.int .i64 p.1,.int .i64 p.2]
def fcI {R:Type} (l:List Int):(List Int->R)->R:=List.rec (motive:=λ_=>(List Int->R)->R) (λk=>k []) (λx _ a k=>fi x λx=>a λr=>k (x::r)) l
def fcP {R:Type} (l:List (Int×Int)):(List (Int×Int)->R)->R:=List.rec (motive:=λ_=>(List (Int×Int)->R)->R) (λk=>k []) (λx _ c k=>fi x.1 λa=>fi x.2 λb=>c λr=>k ((a,b)::r)) l
def fcR {R:Type} (l:List (List (Int×Int))):(List (List (Int×Int))->R)->R:=List.rec (motive:=λ_=>(List (List (Int×Int))->R)->R) (λk=>k []) (λx _ a k=>fcP x λx=>a λr=>k (x::r)) l
theorem Uo {R:Type}:∀(l:List Int) (k:List Int->R),fcI l k=k l
 | [],k=>rfl
 |x::l,k=>by
  show fi x (λx=>fcI l λr=>k (x::r))=_;rw[OJ,Uo l]
theorem Zt {R:Type}:∀(l:List (Int×Int)) (k:List (Int×Int)->R),fcP l k=k l
 | [],k=>rfl
 |x::l,k=>by
  show fi x.1 (λa=>fi x.2 λb=>fcP l λr=>k ((a,b)::r))=_;rw[OJ,OJ,Zt l]
theorem Zu {R:Type}:∀(l:List (List (Int×Int))) (k:List (List (Int×Int))->R),fcR l k=k l
 | [],k=>rfl
 |x::l,k=>by
  show fcP x (λx=>fcR l λr=>k (x::r))=_;rw[Zt,Zu l]
def VW (b:Bool) (H:GH):OR:=Bool.casesOn (motive:=λ_=>OR) b (some (.bool false,H)) (some (.bool true,H))
def aaa (r:List Int) (H:GH):OR:=fcI r λr=>bif Nat.beq r.length 0 then none else fc (r.flatMap gI) λl=>sn r.length λn=>H.newK (.cells l) λh a=>some (.sl h 0 n 1,a)
def UG (r:List Int×List (List (Int×Int))) (H:GH):OR:=fcI r.1 λx=>fcR r.2 λy=>bif Nat.beq x.length 0 then none else bif Nat.beq y.length 0 then none else bif y.any λl=>Nat.beq l.length 0 then none else
 fc (x.flatMap gI) λl=>H.newK (.cells l) λh a=>fc (yB 2 gP y a).1 λd=>sn x.length λn=>sn y.length λm=>(yB 2 gP y a).2.newK (.cells d) λc b=>some (.agg [.sl h 0 n 1,.sl c 0 m 1],b)
end
section
variable {P:Program} {gs:BV} {w0:fR gs} {w:World} {ρ:fC} {H H':GH} {g:GV}
theorem pO.one {x:GV} {vs:List Value} (h:pO ρ [x] vs):∃V,vs=[V]∧Rl ρ x V:=by
 obtain⟨v,vs,rfl,a,b⟩:=h.of_cons;rw[b.of_nil];exact⟨v,rfl,a⟩
theorem DY {k:IntKind} {v:GV} {V:Value} {n:Int} (a:Rl ρ v V) (h:Ze k v=some n):V = .int k n:=by
 obtain⟨p,c,h⟩:=aF.1 (show ob v.asI _=some n from h);obtain⟨b,h⟩:=bW.1 h;cases h;rw[pA c]at a;rw[a.int_inv,Kk b]
theorem Yw {v:GV} {V:Value} {b:Bool} (a:Rl ρ v V) (h:v.asB=some b):V = .bool b:=by
 rw[DW h]at a;exact a.bool_inv
theorem Sm (R:gH w0 ρ H w) {v:GV} {V:Value} {a:List Int} (b:Rl ρ v V) (h:Zg H v=some a):(Sl (gA.int .u32) V a).p w All:=by
 obtain⟨d,rfl,c⟩:=CG R (λ_ _=>trivial) (eT.int .u32) b h;rw[List.map_id];exact c
theorem acw (R:gH w0 ρ H w) {v:GV} {V:Value} {p:Int×List Int×List Int×List Int×Bool×Bool} (l:Rl ρ v V) (h:ahg H v=some p):
  ∃m o s,V = .agg #[.int .i64 p.1,m,o,s,.bool p.2.2.2.2.1,.bool p.2.2.2.2.2]∧(Sl (gA.int .i64) m p.2.1).p w All∧(Sl (gA.int .i64) o p.2.2.1).p w All∧(Sl (gA.int .i64) s p.2.2.2.1).p w All:=by
 obtain⟨T,k,h⟩:=aF.1 (show ob v.asA _=some p from h);obtain⟨a,b,c,d,e,f,rfl,h⟩:=abr h;obtain⟨n,I,h⟩:=aF.1 h;obtain⟨x,L,h⟩:=aF.1 h;obtain⟨y,M,h⟩:=aF.1 h;obtain⟨z,N,h⟩:=aF.1 h;obtain⟨q,J,h⟩:=aF.1 h;obtain⟨r,K,h⟩:=aF.1 h;cases h;rw[Ms k]at l;obtain⟨j,rfl,i,_⟩:=l.agg_inv;obtain⟨U,j,rfl,B,i⟩:=i.of_cons;obtain⟨O,j,rfl,C,i⟩:=i.of_cons;obtain⟨Q,j,rfl,D,i⟩:=i.of_cons;obtain⟨S,j,rfl,E,i⟩:=i.of_cons;obtain⟨W,j,rfl,F,i⟩:=i.of_cons;obtain⟨X,rfl,G⟩:=i.one;have t:=DY B I;have u:=Yw F J;have A:=Yw G K;subst t u A;exact⟨O,Q,S,rfl,Jd R C L,Jd R D M,Jd R E N⟩
theorem IC {b:Bool} (h:VW b H=some (g,H')):g = .bool b∧H'=H:=by
 cases b<;>cases h<;>exact⟨rfl,rfl⟩
theorem UH {r:List Int} (h:aaa r H=some (g,H')):r≠[]∧g = .sl H.n 0 r.length 1∧H'=H.new (.cells (r.flatMap gI)):=by
 unfold aaa at h;rw[Uo]at h;obtain⟨a,h⟩:=kS.1 h;rw[Sq,xP,jG]at h;cases h;exact⟨λe=>(by subst e;cases a),rfl,rfl⟩
theorem SO {r:List Int×List (List (Int×Int))} (h:UG r H=some (g,H')):r.1≠[]∧r.2≠[]∧(∀a∈r.2,a≠[])∧
  g = .agg [.sl H.n 0 r.1.length 1,.sl (yB 2 gP r.2 (H.new (.cells (r.1.flatMap gI)))).2.n 0 r.2.length 1]∧H'=(yB 2 gP r.2 (H.new (.cells (r.1.flatMap gI)))).2.new (.cells (yB 2 gP r.2 (H.new (.cells (r.1.flatMap gI)))).1):=by
 unfold UG at h;rw[Uo,Zu]at h;obtain⟨b,h⟩:=kS.1 h;obtain⟨c,h⟩:=kS.1 h;obtain⟨d,h⟩:=kS.1 h;rw[Sq,jG,Sq,xP,xP,jG]at h;cases h;refine⟨λe=>(by rw[e]at b;cases b),λe=>(by rw[e]at c;cases c),λa f e=>?_,rfl,rfl⟩
 have:=List.any_eq_false.1 d a f;rw[e]at this;exact this Z
theorem adM (ρ:fC) (x:Int):pO ρ (gI x) [.int .i64 x]:= .cons (.int _ _) .nil
theorem ahl (ρ:fC) (x:Int×Int):pO ρ (gP x) [.int .i64 x.1,.int .i64 x.2]:= .cons (.int _ _) (.cons (.int _ _) .nil)
def glb (b:Nat) (a:List Value) (T:Nat):BV:=⟨[(b,.cells a.toArray T (0,0))],[]⟩
theorem Uv {b:Nat} {a:List Value} (w:World) (S:Nat->Prop) (h:∀h∈[Gb b a],h.p w S):∃T,KO (glb b a T) w λ_=>False:=by
 obtain⟨_,T,c⟩:=h _ (List.mem_singleton.2 Z);exact⟨T,λp d=>by obtain rfl:=List.mem_singleton.1 d;exact⟨c,id⟩⟩
theorem gH.glb {b:Nat} {a:List Value} {T:Nat} {c:fR (glb b a T)} {w:World} {ρ:fC} {H:GH} (R:gH c ρ H w):(Gb b a).p w All:=⟨trivial,T,(R.glo _ (List.mem_singleton.2 Z)).1⟩
theorem Qw {gs:Nat->BV} {f:Nat} {V:Value} {L:List bJ} (q:∀w S,(∀h∈L,h.p w S)->∃T,KO (gs T) w λ_=>False) (r:aU P f) (y:∀ρ d,Rl ρ g d->d=V) (h:∀T (b:fR (gs T)),jR P b (λ_=>none) f [] b.w g H'):aW P f #[] L (λ_:Unit=>V) (λ_ l=>l) (λ_ l=>l):=by
 intro w0 o z;obtain⟨T,n⟩:=q w0 o z;rcases h T (.of w0 n)with⟨v,A,c,a,_⟩|⟨_,s⟩
 ·have x:=r #[] w0;rw[show([]:List Value).toArray = #[]from rfl]at a;rw[show(fR.of w0 n).w=w0 from rfl,x]at a;cases a
 refine s.mono ?_;rintro e A ⟨v,c,rfl,_,R,a⟩;exact⟨(),by rw[y _ _ a],R.ext,λ_ _=>False,⟨λi m u=>by simp at u,λi k h=>h.elim,λi j k h=>h.elim⟩,λf t=>by simp at t⟩
section
variable {tb:TB} {T:TypeId}
theorem Vh (h:En tb T=some [AT]) (H:GH):vG tb T H=some (.ptr H.n 0,H.new (.cells [AT])):=by
 unfold vG;rw[h];show H.newK (.cells [AT]) (λh H'=>some (GV.ptr h 0,H'))=_;rw[jG]
theorem Wm {t:Ty} (h:tb T=some t) (e:t.size=1) (H:GH) (k:Nat) (c:GV) (d:GH.cells H k=some [c]):qH tb T (.ptr k 0) AT H=some (.un,H.set k (.cells [AT])):=by
 show ob (H.cells k) (λb=>ob (tb T) λt=>bif Nat.beq 1 t.size then bif Nat.beq t.size 0 then none else ob (Jj [AT] 0 b) λa=>H.setK k (.cells a) λH'=>some (GV.un,H')else none)=_;rw[d,h];show(bif Nat.beq 1 t.size then bif Nat.beq t.size 0 then none else ob (Jj [AT] 0 [c]) λa=>H.setK k (.cells a) λH'=>some (GV.un,H')else none)=_;rw[e];show H.setK k (.cells [AT]) (λH'=>some (GV.un,H'))=_;rw[Ba]
theorem ZR {t:Ty} (h:tb T=some t) (b:AR t.desc=false) (H:GH) (k:Nat) (c:GH.cells H k=some [AT]):wD tb T (.ptr k 0) H=some AT:=by
 show ob (H.cells k) (λa=>ob (tb T) λt=>DN t a 0)=_;rw[c,h];show DN t [AT] 0=_;unfold DN;rw[b];rfl
end
def Qa (a:Func):List Oper:=match a.body with
 |some (.seq (.region _ ops _) _)=>ops.toList
 |_=>[]
def YT (a:Func):Code:=match a.body with
 |some (.seq _ c)=>c
 |_=> .skip
def acu (a:Func):Nat:=match Qa a with
 |o::_=>o.dst.getD 0
 | []=>0
def okN (r:RS):Bool:=match r with
 |some o=>match o.e with
  | .normal=>true
  |_=>false
 |none=>false
theorem aab {r:RS} (h:okN r=true):∃a,r=some a∧a.e = .normal:=by
 unfold okN at h;cases r with
 |none=>cases h
 |some o=>
  refine⟨o,rfl,?_⟩
  cases b:o.e<;>simp only[b]at h<;>first|rfl|cases h
def okT (r:OR):Bool:=match r with
 |some (.bool true,_)=>true
 |_=>false
theorem aac {r:OR} (h:okT r=true):∃H',r=some (.bool true,H'):=by
 unfold okT at h;split at h
 ·exact⟨_,rfl⟩
 ·cases h
end
end Go.Gx
namespace Go.Proofs.YtahgemjmgopleaaGreatDoor
open Go.Sx
def oV  (a:Unit):Option Bool:=
 some (true)
def jP (d:aY) (a:Int×List (Bool)) (c:(Int×List (Bool))->Option Bool) (b:Bool):Option Bool:=
 if b=true then(some (false))else(ck ((0<=(at' d a.1)∧(at' d a.1)<((256:Nat):Int))∧a.2.length=256) (c ((wI .i64 (a.1+(1:Int))),(List.set a.2 (Int.toNat (at' d a.1)) true))))
def iF (b:aY) (a:Int×List (Bool)) (c:(Int×List (Bool))->Option Bool):Option Bool:=
 if a.1<(b.length:Int)then(ck (0<=a.1∧a.1<(b.length:Int)) (if(at' b a.1)<(0:Int)then(jP b a c (true))else(if(255:Int)<(at' b a.1)then(jP b a c (true))else(ck ((0<=(at' b a.1)∧(at' b a.1)<((256:Nat):Int))∧a.2.length=256) (jP b a c ((at' a.2 (at' b a.1))))))))else(oV  (()))
def kF (U:Nat) (a:aY):Option Bool:=
 bL (iF a) U ((0:Int),(List.replicate 256 false))
theorem abF:aU Tryz.prog 120:=Tryz.call120
theorem GN (U:Nat) {d:aY} (n:Value) (r:Bool) (h:kF U d=some r):
  aW Tryz.prog 120 #[n] [Sl bR n d] (λx:Unit=>vB (r)) (λx l=>l) (λ_ l=>l):=by
 refine aW.of Tryz.func120 Z Tryz.ntmps120 Z λc=>?_;unfold kF at h;refine aT<|aB Z<|aL<|aT ?_;refine aG (aM.alloc (cs:=cellsOf EBo (List.replicate 256 false)) Z (by kernel_rfl)) Z λm=>?_;refine aL<|aK<|dQ (λk=>oV  k=some r) (λk o=>[]) (λk o=>[]) ?_ ?_
 ·refine aT<|aA Z<|gW (aD.fact 0 Z) Z<|aA Z<|aL<|aS<|dZ (iF d) (λa p=>[(3,vP m),(6,n),(7,vI (d.length:Int)),(8,vI (a.1))]) (λa p=>[bS m (cellsOf EBo a.2) 209]) ((0:Int),(List.replicate 256 false)) () h SF (a_.refl _) ?_;intro q a p h;refine aT<|cN Z<|aL<|aK ?_;refine dY h Z (λh=>?_) λh=>?_
  ·refine cD<|aK<|aS<|aT<|dB h λg h=>aC (aZ Z Z (aD.fact 0 Z) Z Z g) Z<|aC (bY Z (aD.fact 0 Z) Z Z Z eD g) Z<|aB Z<|aL<|aK<|aK<|dQ (λb=>jP d a (bL (iF d) q) b=some r) (λb f=>[(3,vP m),(5,vI (at' d a.1)),(6,n),(7,vI (d.length:Int)),(8,vI (a.1)),(22,vB (b))]) (λb f=>[bS m (cellsOf EBo a.2) 209]) ?_ ?_
   ·refine aO<|aA Z<|cN Z<|aA Z ?_;refine AP h Z (λ_ h=>?_) λ_ h=>?_
    ·refine aH Z<|aH Z<|dC Z<|aA Z<|aH Z<|aH Z<|aH Z<|dC Z<|aL ?_;exact fE (true) () h SF Z
    refine cJ Z<|aQ Z (tM Z Z) Z<|dR Z<|aA Z ?_;refine AP h Z (λ_ h=>?_) λ_ h=>?_
    ·refine aH Z<|aH Z<|aH Z<|dC Z<|aL ?_;exact fE (true) () h SF Z
    refine cJ Z<|dB h λj h=>aQ Z (qC Z Z Z Z Z j.1) Z<|aQ Z (WO (e:=EBo) Z (aD.res 0 Z) Z Z Z Z j) Z<|dR Z<|aL ?_;exact fE ((at' a.2 (at' d a.1))) () h SF Z
   intro b f h;refine tP h Z (λ_ h=>?_) λ_ h=>?_
   ·refine aT<|aB Z<|aL<|aR<|aI<|bE<|aI<|aI<|bE<|aI ?_;cases h;exact mR Z
   refine cD<|aO<|aA Z<|dB h λi h=>aC (qC Z Z Z Z Z i.1) Z<|Mg 0 (e:=EBo) true i Z Z Z Z Z Z Z<|eM<|jE<|aO<|cB Z<|aA Z<|aL ?_;exact uG ((wI .i64 (a.1+(1:Int))),(List.set a.2 (Int.toNat (at' d a.1)) true)) () h SF Z
  refine eR ?_;exact bZ () (()) h SF .nil (aE.refl _ _)
 intro k o h;unfold oV at h;refine aT<|aB Z<|aL<|aR ?_;cases h;exact gF Z
def zF (c:(List ((Int×Int)×Int))) (a:(Int×Int)×Int) (b:Option Bool):Option Bool:=
 if(Option.getD (nM (a.1.2,a.1.1) c) (0:Int))≠a.2 then(some (false))else(b)
def jY  (a:(List ((Int×Int)×Int))):Option Bool:=
 NW (zF a) (some (true)) a
def nW (b:Li) (a:Pj->Option Bool) (c:(List ((Int×Int)×Int))):Option Bool:=
 a ((wI .i64 (b.1+(1:Int))),c)
def jZ (e:iA) (b:Li) (a:Li) (c:Pj->Option Bool) (d:Bool):Option Bool:=
 if d=true then(some (false))else(if(Option.isSome (nM (b.1,((at' (at' e b.1) a.1).1)) a.2))=true then(some (false))else(c ((wI .i64 (a.1+(1:Int))),(Fq (b.1,((at' (at' e b.1) a.1).1)) ((at' (at' e b.1) a.1).2) a.2))))
def iS (d:iA) (a:Li) (b:Li) (c:Pj->Option Bool) (e:Bool):Option Bool:=
 if e=true then(some (false))else(if((at' (at' d a.1) b.1).2)<(1:Int)then(jZ d a b c (true))else(jZ d a b c (decide ((15:Int)<((at' (at' d a.1) b.1).2)))))
def dM (d:iA) (a:Li) (e:Pj->Option Bool) (b:Li) (c:Pj->Option Bool):Option Bool:=
 if b.1<((at' d a.1).length:Int)then(ck (0<=b.1∧b.1<((at' d a.1).length:Int)) (if((at' (at' d a.1) b.1).1)<(0:Int)then(iS d a b c (true))else(if(d.length:Int)<=((at' (at' d a.1) b.1).1)then(iS d a b c (true))else(iS d a b c (decide (((at' (at' d a.1) b.1).1)=a.1))))))else(nW a e (b.2))
def eJ (U:Nat) (c:iA) (a:Li) (b:Pj->Option Bool):Option Bool:=
 if a.1<(c.length:Int)then(ck (0<=a.1∧a.1<(c.length:Int)) (bL (dM c a b) U ((0:Int),a.2)))else(jY  (a.2))
def iL (U:Nat) (a:iA):Option Bool:=
 bL (eJ U a) U ((0:Int),([]:List ((Int×Int)×Int)))
theorem abG:aU Tryz.prog 121:=Tryz.call121
theorem JI (U:Nat) {f:iA} (n:Value)  (F:jA) (r:Bool) (h:iL U f=some r):
  aW Tryz.prog 121 #[n] [S2 bD n F f] (λx:Unit=>vB (r)) (λx l=>l) (λ_ l=>l):=by
 refine aW.of Tryz.func121 Z Tryz.ntmps121 Z λc=>?_;unfold iL at h;refine aT<|aB Z<|aL<|aT<|aG (aM.makeMap oO To) Z λk=>aB Z<|aL<|aK<|dQ (λq=>jY  q=some r) (λq H=>[(3,Value.map (some k))]) (λq H=>[Mp oO To k q]) ?_ ?_
 ·refine aT<|aA Z<|aC (gE Z (aD.fact 0 Z) Z) Z<|aA Z<|aL<|aS<|dZ (eJ U f) (λd y=>[(0,n),(3,Value.map (some k)),(14,n),(15,vI (f.length:Int)),(16,vI (d.1))]) (λd y=>[Mp oO To k d.2]) ((0:Int),([]:List ((Int×Int)×Int))) () h SF (a_.refl _) ?_;intro t d y h;refine aT<|cN Z<|aL<|aK ?_;refine dY h Z (λh=>?_) λh=>?_
  ·refine cD<|aK<|dQ (λm=>nW d (bL (eJ U f) t) m=some r) (λm z=>[(0,n),(3,Value.map (some k)),(14,n),(15,vI (f.length:Int)),(16,vI (d.1))]) (λm z=>[Mp oO To k m]) ?_ ?_
   ·refine aS<|aT<|aA Z<|dB h λj h=>aC (b_ Z Z (aD.fact 0 Z) Z Z j) Z<|aC (bX Z (aD.fact 0 Z) Z Z j) Z<|aB Z<|aB Z<|aL<|aT<|aA Z<|aC (fV Z (zBj (aD.fact 0 Z) j.1 j.2) Z) Z<|aA Z<|aL<|aS<|dZ (dM f d (bL (eJ U f) t)) (λe A=>[(0,n),(3,Value.map (some k)),(4,vI (d.1)),(14,n),(15,vI (f.length:Int)),(16,vI (d.1)),(21,(at' F d.1).1),(22,vI ((at' f d.1).length:Int)),(23,vI (e.1))]) (λe A=>[Mp oO To k e.2]) ((0:Int),d.2) () h SF (a_.refl _) ?_;intro E e A h;refine aT<|cN Z<|aL<|aK ?_;refine dY h Z (λh=>?_) λh=>?_
    ·refine cD<|aK<|aS<|aT<|dB h λD h=>aC (aZ Z Z (zBj (aD.fact 0 Z) j.1 j.2) Z Z D) Z<|aC (gX (cs:=[vI ((at' (at' f d.1) e.1).1),vI ((at' (at' f d.1) e.1).2)]) Z (zBj (aD.fact 0 Z) j.1 j.2) bV Z Z Z Z D) Z<|aG (aM.alloc (cs:=Rm) Z Z) Z λs=>bH 0 (vs:=[vI ((at' (at' f d.1) e.1).1),vI ((at' (at' f d.1) e.1).2)]) Z Z Z Z Z Z<|aL<|aK<|aK<|dQ (λo=>iS f d e (bL (dM f d (bL (eJ U f) t)) E) o=some r) (λo B=>[(0,n),(3,Value.map (some k)),(4,vI (d.1)),(7,vP s),(14,n),(15,vI (f.length:Int)),(16,vI (d.1)),(21,(at' F d.1).1),(22,vI ((at' f d.1).length:Int)),(23,vI (e.1)),(42,vB (o))]) (λo B=>[bS s [vI ((at' (at' f d.1) e.1).1),vI ((at' (at' f d.1) e.1).2)] 141,Mp oO To k e.2]) ?_ ?_
     ·refine aO<|bN Z<|cT 0 Z<|cN Z<|aA Z ?_;refine AP h Z (λ_ h=>?_) λ_ h=>?_
      ·refine aH Z<|aH Z<|aH Z<|aH Z<|aH Z<|dC Z<|aA Z<|aH Z<|aH Z<|aH Z<|aH Z<|dC Z<|aL ?_;exact fE (true) () h SF Z
      refine aQ Z (cO Z Z Z Z Z) Z<|aQ Z (dO 0 Z Z Z Z Z) Z<|cJ Z<|aQ Z (gE Z (aD.fact 0 Z) Z) Z<|aQ Z (zJ Z Z) Z<|dR Z<|aA Z ?_;refine AP h Z (λ_ h=>?_) λ_ h=>?_
      ·refine aH Z<|aH Z<|aH Z<|aH Z<|dC Z<|aL ?_;exact fE (true) () h SF Z
      refine aQ Z (cO Z Z Z Z Z) Z<|aQ Z (dO 0 Z Z Z Z Z) Z<|cJ Z<|aQ Z (FJ Z Z) Z<|dR Z<|aL ?_;exact fE (decide (((at' (at' f d.1) e.1).1)=d.1)) () h SF Z
     intro o B h;refine tP h Z (λ_ h=>?_) λ_ h=>?_
     ·refine aT<|aB Z<|aL<|aR<|aI<|bE<|aI<|aI<|bE<|bE<|aI<|aI<|bE<|aI ?_;cases h;exact mR Z
     refine cD<|aK<|aK<|dQ (λp=>jZ f d e (bL (dM f d (bL (eJ U f) t)) E) p=some r) (λp C=>[(0,n),(3,Value.map (some k)),(4,vI (d.1)),(7,vP s),(14,n),(15,vI (f.length:Int)),(16,vI (d.1)),(21,(at' F d.1).1),(22,vI ((at' f d.1).length:Int)),(23,vI (e.1)),(50,vB (p))]) (λp C=>[bS s [vI ((at' (at' f d.1) e.1).1),vI ((at' (at' f d.1) e.1).2)] 141,Mp oO To k e.2]) ?_ ?_
     ·refine aO<|bN Z<|cT 0 Z<|cN Z<|aA Z ?_;refine AP h Z (λ_ h=>?_) λ_ h=>?_
      ·refine aH Z<|aH Z<|aH Z<|dC Z<|aL ?_;exact fE (true) () h SF Z
      refine aQ Z (cO Z Z Z Z Z) Z<|aQ Z (dO 0 Z Z Z Z Z) Z<|aQ Z (tM Z Z) Z<|dR Z<|aL ?_;exact fE (decide ((15:Int)<((at' (at' f d.1) e.1).2))) () h SF Z
     intro p C h;refine tP h Z (λ_ h=>?_) λ_ h=>?_
     ·refine aT<|aB Z<|aL<|aR<|aI<|bE<|aI<|aI<|bE<|bE<|aI<|aI<|bE<|aI ?_;cases h;exact mR Z
     refine cD<|aT<|aA Z<|bN Z<|cT 0 Z ?_;refine aC (Ip (r:=Value.agg #[vI (d.1),vI ((at' (at' f d.1) e.1).1)]) Z Z (by intro w;simp[Instr.build,Instr.fill,dH,cR,cI,dJ,dK,cS,eI])) Z ?_;refine aG (aM.alloc (cs:=Rm) Z Z) Z λK=>bH 0 (vs:=[vI (d.1),vI ((at' (at' f d.1) e.1).1)]) Z Z Z Z Z Z<|aL<|aK<|aT<|aA Z<|cG 0 Z ?_;refine aC (RY 2 ((d.1,((at' (at' f d.1) e.1).1))) (u:=vI (Option.getD (nM (d.1,((at' (at' f d.1) e.1).1)) e.2) (0:Int))) Qt Z Z Z Z Z (by cases nM ((d.1,((at' (at' f d.1) e.1).1))) e.2<;>rfl)) Z ?_;refine aA Z<|eS Z<|eS Z<|aB Z<|aB Z<|aL<|aT<|aA Z<|aL ?_;refine tP h Z (λ_ h=>?_) λ_ h=>?_
     ·refine aT<|aB Z<|aL<|aR<|aI<|bE<|aI<|aI<|bE<|bE<|aI<|aI<|bE<|aI ?_;cases h;exact mR Z
     refine cD<|aO<|aA Z<|cG 0 Z<|bN Z<|cT 1 Z<|Ru 2 ((d.1,((at' (at' f d.1) e.1).1))) ((at' (at' f d.1) e.1).2) Qt Z Z Z Z Z<|eM<|jE<|aO<|cB Z<|aA Z<|aL ?_;exact kM ((wI .i64 (e.1+(1:Int))),(Fq (d.1,((at' (at' f d.1) e.1).1)) ((at' (at' f d.1) e.1).2) e.2)) () h SF (a_.ix [2] Z Z) (aE.refl _ _)
    refine mJ<|d_<|d_<|sJ<|jE ?_;exact fE (e.2) () h SF Z
   intro m z h;unfold nW at h;refine aO<|cB Z<|aA Z<|aL ?_;exact uG ((wI .i64 (d.1+(1:Int))),m) () h SF Z
  refine eR ?_;exact fE (d.2) () h SF Z
 intro q H h;unfold jY at h;refine aK<|aT<|aA Z<|aG (aM.range 0 Z Z Z) Z λI=>aL<|aS<|abi [(3,Value.map (some k)),(69,vP I)] [It I k (q.length) ([]),Mp oO To k q] [S2 bD n F f] SF (a_.refl _) (aE.refl _ _) ?_;refine WK (zF q) 1 0 (by intro a b x;unfold zF;repeat' split;all_goals first|rfl|contradiction|simp_all) h Z Z Z Z Z Z ?_ ?_
 ·skip
  intro g N G M v h;refine aS<|aT<|aG (aM.entry 1 0 v Z Z Z) Z λL=>eS Z<|eS Z<|aG (aM.alloc (cs:=Rm) Z Z) Z λJ=>bH 0 (vs:=[vI (g.1.1),vI (g.1.2)]) Z Z Z Z Z Z<|aB Z<|aL<|aT<|aA Z ?_;refine aC (qC (i:=1) Z Z Z Z Z (by decide)) Z ?_;refine cT 0 Z ?_;refine aC (qC (i:=0) Z Z Z Z Z (by decide)) Z ?_;refine cT 0 Z ?_;refine aC (Ip (r:=Value.agg #[vI (g.1.2),vI (g.1.1)]) Z Z (by intro w;simp[Instr.build,Instr.fill,dH,cR,cI,dJ,dK,cS,eI])) Z ?_;refine aC (RY 2 ((g.1.2,g.1.1)) (u:=vI (Option.getD (nM (g.1.2,g.1.1) q) (0:Int))) Qt Z Z Z Z Z (by cases nM ((g.1.2,g.1.1)) q<;>rfl)) Z ?_;refine aA Z<|kH Z<|aL ?_;refine dY h Z (λh=>?_) λh=>?_
  ·refine aT<|aB Z<|aL<|aR<|bE<|aI<|bE<|aI ?_;cases h;exact mR Z
  refine cU<|jE ?_;exact TN h SF (a_.ix [1,2] Z Z) (aE.refl _ _)
 intro G h;refine sJ<|CB<|aT<|aB Z<|aL<|aR ?_;cases h;exact mR Z
def rF  (a:Bool):Option Bool:=
 some (a)
def rE (U:Nat) (b:cC) (c:Bool):Option Bool:=
 if c=true then(some (false))else(Option.bind (kF U b.1) λd=>(if d=true then(Option.bind (iL U b.2) λa=>(rF  (a)))else(rF  (false))))
def iY (U:Nat) (a:cC):Option Bool:=
 if(a.1.length:Int)<(1:Int)then(rE U a (true))else(if(24:Int)<(a.1.length:Int)then(rE U a (true))else(rE U a (decide ((a.2.length:Int)≠(a.1.length:Int)))))
theorem P_:aU Tryz.prog 75:=Tryz.call75
theorem BS (U:Nat) {p0:cC} (f:Value)  (g:Value)  (o:jA) (r:Bool) (h:iY U p0=some r):
  aW Tryz.prog 75 #[Value.agg #[f,g]] [Sl bR f p0.1,S2 bD g o p0.2] (λx:Unit=>vB (r)) (λx l=>l) (λ_ l=>l):=by
 refine aW.of Tryz.func75 Z Tryz.ntmps75 Z λc=>?_;refine aT<|aG (aM.box (cs:=[f,g]) Z Z) Z λk=>aB Z<|aL<|aT<|bN Z<|cT 0 Z<|gW (aD.fact 0 Z) Z<|aB Z<|aL<|aK<|aK<|dQ (λb=>rE U p0 b=some r) (λb m=>[(1,vP k),(19,vB (b))]) (λb m=>[bS k [f,g] 29]) ?_ ?_
 ·refine aO<|aA Z<|cN Z<|aA Z ?_;refine AP h Z (λ_ h=>?_) λ_ h=>?_
  ·refine aH Z<|aH Z<|dC Z<|aA Z<|aH Z<|aH Z<|aH Z<|aH Z<|aH Z<|dC Z<|aL ?_;exact fE (true) () h SF Z
  refine cJ Z<|aQ Z (tM Z Z) Z<|dR Z<|aA Z ?_;refine AP h Z (λ_ h=>?_) λ_ h=>?_
  ·refine aH Z<|aH Z<|aH Z<|aH Z<|aH Z<|dC Z<|aL ?_;exact fE (true) () h SF Z
  refine aQ Z (cO Z Z Z Z Z) Z<|aQ Z (dO 0 Z Z Z Z Z) Z<|aQ Z (gE Z (aD.fact 1 Z) Z) Z<|cJ Z<|aQ Z (CW Z Z) Z<|dR Z<|aL ?_;exact fE (decide ((p0.2.length:Int)≠(p0.1.length:Int))) () h SF Z
 intro b m h;refine tP h Z (λ_ h=>?_) λ_ h=>?_
 ·refine aT<|aB Z<|aL<|aR<|aI ?_;cases h;exact mR Z
 refine cD<|aK<|dQ (λd=>rF  d=some r) (λd n=>[(2,vB (d))]) (λd n=>[]) ?_ ?_
 ·refine aO<|bN Z<|cT 0 Z<|dN h λp i h=>aG (zBi abF (GN U f p i) Z (jF [0] Z)) Z λq=>aA Z ?_;refine rY (by exact rfl) (by exact rfl) (λa=>?_) (λa=>?_)
  ·have h:=Jl a h;refine aQ Z (cO Z Z Z Z Z) Z<|aQ Z (dO 0 Z Z Z Z Z) Z<|dN h λe j h=>iP Z (zBi abG (JI U g o e j) Z (jF [1] Z)) Z λs=>dC Z<|aB Z<|aL ?_;exact bZ (e) () h SF .nil (aE.refl _ _)
  have h:=FZ a h;refine aH Z<|aH Z<|aH Z<|dR Z<|aB Z<|aL ?_;exact bZ (false) () h SF .nil (aE.refl _ _)
 intro d n h;unfold rF at h;refine aR ?_;cases h;exact gF Z
def sX  (a:Int):Option (Int):=
 some (a)
def hZ (U:Nat) (b:Int) (a:Int):Option (Int):=
 if a<(1:Int)then(some (0:Int))else(ck (a≠0) (if(Int.tmod b a)<(0:Int)then(sX  (wI .i64 ((Int.tmod b a)+a)))else(sX  (Int.tmod b a))))
theorem E_:aU Tryz.prog 12:=Tryz.call12
theorem kQ (U:Nat) {d:Int} {b:Int} (r:Int) (h:hZ U d b=some r):
  aW Tryz.prog 12 #[vI (d),vI (b)] [] (λx:Unit=>vI (r)) (λx l=>l) (λ_ l=>l):=by
 refine aW.of Tryz.func12 Z Tryz.ntmps12 Z λc=>?_;refine aT<|aB Z<|aL<|aK<|aT<|aA Z<|cN Z<|aL ?_;refine dY h Z (λh=>?_) λh=>?_
 ·refine aT<|aB Z<|aL<|aR<|aI ?_;cases h;exact gF Z
 refine cD<|aT<|aA Z<|aA Z<|dB h λf h=>aC (OA Z Z f) Z<|aB Z<|aL<|aK<|dQ (λa=>sX  a=some r) (λa e=>[(0,vI (a))]) (λa e=>[]) ?_ ?_
 ·refine aT<|aA Z<|cN Z<|aL ?_;refine dY h Z (λh=>?_) λh=>?_
  ·refine aO<|aA Z<|aA Z<|cB Z<|aB Z<|aL ?_;exact fE (wI .i64 ((Int.tmod d b)+b)) () h SF Z
  refine cD ?_;exact fE (Int.tmod d b) () h SF Z
 intro a e h;unfold sX at h;refine aT<|aA Z<|aB Z<|aL<|aR ?_;cases h;exact gF Z
def uS (U:Nat) (b:aY) (a:Int):Option (Int):=
 if a<(b.length:Int)then(ck (0<=a∧a<(b.length:Int)) (some (at' b a)))else(some (0:Int))
theorem Mv:aU Tryz.prog 33:=Tryz.call33
theorem Du (U:Nat) {b:aY} {d:Int} (e:Value) (r:Int) (h:uS U b d=some r):
  aW Tryz.prog 33 #[e,vI (d)] [Sl bR e b] (λx:Unit=>vI (r)) (λx l=>l) (λ_ l=>l):=by
 refine aW.of Tryz.func33 Z Tryz.ntmps33 Z λc=>?_;refine aT<|aB Z<|aL<|aK<|aT<|aA Z<|aA Z<|gW (aD.fact 0 Z) Z<|cN Z<|aL ?_;refine dY h Z (λh=>?_) λh=>?_
 ·refine aT<|aA Z<|aA Z<|dB h λa h=>aC (aZ Z Z (aD.fact 0 Z) Z Z a) Z<|aC (bY Z (aD.fact 0 Z) Z Z Z eD a) Z<|aB Z<|aL<|aR<|aI ?_;cases h;exact gF Z
 refine cD<|aT<|aB Z<|aL<|aR ?_;cases h;exact gF Z
def pP (b:Int) (a:aY):Option vF:=
 some ((a,(List.replicate (Int.toNat (wI .i64 ((1:Int)+b))) ([]:e_))))
def uF (a:rU) (c:xS->Option vF) (b:Int):Option vF:=
 ck ((a.2.length:Int)+(List.length ([b]):Int)<=1099511627) (c ((wI .i64 (a.1+(1:Int))),(a.2++[b])))
def lW (b:fO->Option vF) (a:eV):Option vF:=
 b (a.1,(wI .i64 (a.2+(1:Int))))
def lX (b:rU) (d:xS->Option vF) (a:eV) (c:fO->Option vF):Option vF:=
 if a.2<b.1 then(ck (0<=a.2∧a.2<(b.2.length:Int)) (if(at' b.2 a.2)=a.1 then(ck ((256:Int)≠0) (lW c ((Int.tmod (wI .i64 (a.1+(1:Int))) (256:Int)),(-1:Int))))else(lW c (a.1,a.2))))else(uF b d (a.1))
def kB (U:Nat) (f:EM) (e:Int) (a:rU) (b:xS->Option vF):Option vF:=
 if a.1<(wI .i64 ((1:Int)+e))then(Option.bind (uS U f.2.2.2.1 a.1) λc=>(Option.bind (hZ U c (256:Int)) λd=>(bL (lX a b) U (d,(0:Int)))))else(pP e (a.2))
def mV (U:Nat) (b:EM) (c:Int):Option vF:=
 Option.bind (hZ U (wI .i64 (b.1 - (1:Int))) c) λa=>(ck (0<=(wI .i64 ((1:Int)+a))∧(wI .i64 ((1:Int)+a))<=1099511627) (bL (kB U b a) U ((0:Int),([]:aY))))
theorem YF:aU Tryz.prog 29:=Tryz.call29
theorem Cw (U:Nat) {d:EM} {S:Int} (y:Value)  (z:Value)  (u:Value) (r:GX) (h:mV U d S=some r):
  aW Tryz.prog 29 #[Value.agg #[vI (d.1),y,z,u,vB (d.2.2.2.2.1),vB (d.2.2.2.2.2)],vI (S)] [Sl bR y d.2.1,Sl bR z d.2.2.1,Sl bR u d.2.2.2.1] (λx:Tk=>Value.agg #[x.1,x.2.1]) (λx l=>Ar cK x.1 r.1::Ar eO.raw x.2.1 x.2.2::jM cW x.2.2 r.2::l) (λ_ l=>l):=by
 refine aW.of Tryz.func29 Z Tryz.ntmps29 Z λc=>?_;refine aT<|aG (aM.box (cs:=[vI (d.1),y,z,u,vB (d.2.2.2.2.1),vB (d.2.2.2.2.2)]) Z Z) Z λt=>aG (aM.alloc (cs:=[iO,iO]) Z Z) Z λq=>aL<|aT<|bN Z<|cT 1 Z<|aC (mM Z Z) Z<|aA Z<|dN h λb W h=>aG (zBi E_ (kQ U  b W) Z .nil) Z λx5=>cB Z<|aB Z<|aL<|aT<|aA Z<|dB h λT h=>eX (uB cW (Int.toNat (wI .i64 ((1:Int)+b))))<|aG (qB (e:=eO.raw) (iO) Z Z Z Z T Z Z Z) Z λn=>bQ (Know.one (aD.sl (bF (i:=0) (j:=1) Z Z bV))) λK=>?_;refine aC (TW (r:=Value.agg #[iO,n]) Z (by intro w;simp[Instr.build,Instr.fill,dH,cR,cI,dJ,dK,cS,eI,gQ K])) Z ?_;refine aG (aM.alloc (cs:=[iO,iO]) Z Z) Z λs=>bQ (Know.one (aD.sl (bF (i:=1) (j:=2) Z Z bV))) λE=>bH 0 (vs:=[iO,n]) Z Z (c_ Z (c_ E Z)) Z Z Z<|aL<|aK<|Bn (B:=Value) (λp=>pP b p=some r) (λp o=>[(4,vP q),(6,vP s)]) (λp o=>[bS s [o,n] 29,Ar eO.raw n (List.replicate (Int.toNat (wI .i64 ((1:Int)+b))) (iO)),jM cW (List.replicate (Int.toNat (wI .i64 ((1:Int)+b))) (iO)) (List.replicate (Int.toNat (wI .i64 ((1:Int)+b))) ([]:e_)),bS q [iO,iO] 29,Ar cK o p]) ?_ ?_
 ·refine aT<|aB Z<|aL<|aS<|eX (dG cK)<|dZ (B:=Value) (kB U d b) (λa f=>[(2,vP t),(4,vP q),(5,vI (wI .i64 ((1:Int)+b))),(6,vP s),(7,vI (a.1))]) (λa f=>[bS s [f,n] 29,Ar eO.raw n (List.replicate (Int.toNat (wI .i64 ((1:Int)+b))) (iO)),jM cW (List.replicate (Int.toNat (wI .i64 ((1:Int)+b))) (iO)) (List.replicate (Int.toNat (wI .i64 ((1:Int)+b))) ([]:e_)),bS q [iO,iO] 29,bS t [vI (d.1),y,z,u,vB (d.2.2.2.2.1),vB (d.2.2.2.2.2)] 24,Ar cK f a.2]) ((0:Int),([]:aY)) (iO) h SF (a_.ix [1,2,3,4,5,0] Z Z) ?_;intro v a f h;refine aK<|aT<|aA Z<|aA Z<|cN Z<|aL ?_;refine dY h Z (λh=>?_) λh=>?_
  ·refine cD<|aK<|aS<|aT<|bN Z<|cT 4 Z<|aA Z<|dN h λO Q h=>aG (zBi Mv (Du U u O Q) Z (jF [2] Z)) Z λX=>dN h λJ R h=>aG (zBi E_ (kQ U  J R) Z .nil) Z λY=>aB Z<|aL<|aK<|dQ (λg=>uF a (bL (kB U d b) v) g=some r) (λg A=>[(2,vP t),(4,vP q),(5,vI (wI .i64 ((1:Int)+b))),(6,vP s),(7,vI (a.1)),(8,vI (g))]) (λg A=>[bS s [f,n] 29,Ar eO.raw n (List.replicate (Int.toNat (wI .i64 ((1:Int)+b))) (iO)),jM cW (List.replicate (Int.toNat (wI .i64 ((1:Int)+b))) (iO)) (List.replicate (Int.toNat (wI .i64 ((1:Int)+b))) ([]:e_)),bS q [iO,iO] 29,bS t [vI (d.1),y,z,u,vB (d.2.2.2.2.1),vB (d.2.2.2.2.2)] 24,Ar cK f a.2]) ?_ ?_
   ·refine aT<|aB Z<|aL<|aS<|dZ (lX a (bL (kB U d b) v)) (λk C=>[(2,vP t),(4,vP q),(5,vI (wI .i64 ((1:Int)+b))),(6,vP s),(7,vI (a.1)),(8,vI (k.1)),(9,vI (k.2))]) (λk C=>[bS s [f,n] 29,Ar eO.raw n (List.replicate (Int.toNat (wI .i64 ((1:Int)+b))) (iO)),jM cW (List.replicate (Int.toNat (wI .i64 ((1:Int)+b))) (iO)) (List.replicate (Int.toNat (wI .i64 ((1:Int)+b))) ([]:e_)),bS q [iO,iO] 29,bS t [vI (d.1),y,z,u,vB (d.2.2.2.2.1),vB (d.2.2.2.2.2)] 24,Ar cK f a.2]) (J,(0:Int)) () h SF (a_.refl _) ?_;intro N k C h;refine aK<|aT<|aA Z<|aA Z<|cN Z<|aL ?_;refine dY h Z (λh=>?_) λh=>?_
    ·refine cD<|aK<|dQ (λm=>lW (bL (lX a (bL (kB U d b) v)) N) m=some r) (λm D=>[(2,vP t),(4,vP q),(5,vI (wI .i64 ((1:Int)+b))),(6,vP s),(7,vI (a.1)),(8,vI (m.1)),(9,vI (m.2))]) (λm D=>[bS s [f,n] 29,Ar eO.raw n (List.replicate (Int.toNat (wI .i64 ((1:Int)+b))) (iO)),jM cW (List.replicate (Int.toNat (wI .i64 ((1:Int)+b))) (iO)) (List.replicate (Int.toNat (wI .i64 ((1:Int)+b))) ([]:e_)),bS q [iO,iO] 29,bS t [vI (d.1),y,z,u,vB (d.2.2.2.2.1),vB (d.2.2.2.2.2)] 24,Ar cK f a.2]) ?_ ?_
     ·refine aS<|aT<|bN Z<|cT 0 Z<|aA Z<|dB h λI h=>aC (aZ Z Z (bB (aD.res 5 Z) dW) Z Z I) Z<|aC (bY Z (bB (aD.res 5 Z) dW) Z Z Z eD I) Z<|aA Z<|bU Z<|aL ?_;refine dY h Z (λh=>?_) λh=>?_
      ·refine aO<|aA Z<|cB Z<|dB h λM h=>aC (OA Z Z M) Z<|aB Z<|aB Z<|eM<|jE ?_;exact fE ((Int.tmod (wI .i64 (k.1+(1:Int))) (256:Int)),(-1:Int)) () h SF Z
      refine cU<|jE ?_;exact fE (k.1,k.2) () h SF Z
     intro m D h;unfold lW at h;refine aO<|aA Z<|cB Z<|aB Z<|aL ?_;exact uG (m.1,(wI .i64 (m.2+(1:Int)))) () h SF Z
    refine eR ?_;exact fE (k.1) () h SF Z
   intro g A h;refine aO<|bN Z<|cT 0 Z<|aA Z<|aG (cE (e:=cK) ([g]) [(0,vI (g))] Z Z Z Z (gM (vI (g)) Z) Z Z Z) Z λV=>dB h λL h=>aG (eG 6 dW Z Z Z (bB (aD.res 0 Z) dW) Z Z Z Z L Z) Z λP=>bN Z<|bQ (Know.one ((bB (aD.res 6 Z) dW))) λH=>eB 1 Z Z H Z Z Z<|eM<|jE<|aO<|aA Z<|cB Z<|aB Z<|aL ?_;exact kM ((wI .i64 (a.1+(1:Int))),(a.2++[g])) (P) h SF (a_.ix [1,2,3,4,5,6] Z Z) (aE.refl _ _)
  refine eR ?_;exact bZ (a.2) (f) h SF (a_.ix [0,1,2,3,5] Z Z) (aE.refl _ _)
 intro p o h;unfold pP at h;refine aT<|cG 0 Z<|bQ (Know.one ((bB (aD.res 4 Z) dW))) λF=>bQ (Know.one (aD.sl (bF (i:=1) (j:=2) Z Z bV))) λG=>bH 3 (vs:=[o,n]) Z Z (c_ F (c_ G Z)) Z Z Z<|aL<|aR ?_;cases h;exact iJ (o,n,(List.replicate (Int.toNat (wI .i64 ((1:Int)+b))) (iO))) Z Z (RV.cell 3 Z Z Z Z) (a_.ix [4,1,2] Z Z) aE.nil
def yS  (a:Unit):Option Bool:=
 some (false)
def Cu (c:cC) (a:Int) (e:Int) (b:Int) (d:(Int)->Option Bool):Option Bool:=
 ck (0<=a∧a<(c.2.length:Int)) (if b<((at' c.2 a).length:Int)then(ck (0<=a∧a<(c.2.length:Int)) (ck (0<=b∧b<((at' c.2 a).length:Int)) (if((at' (at' c.2 a) b).1)=e then(some (true))else(d (wI .i64 (b+(1:Int)))))))else(yS  (())))
def oF (U:Nat) (a:cC) (b:Int) (c:Int):Option Bool:=
 bL (Cu a b c) U (0:Int)
theorem abC:aU Tryz.prog 100:=Tryz.call100
theorem NJ (U:Nat) {g:cC} {i:Int} {j:Int} (k:Value)  (m:Value)  (q:jA) (r:Bool) (h:oF U g i j=some r):
  aW Tryz.prog 100 #[Value.agg #[k,m],vI (i),vI (j)] [Sl bR k g.1,S2 bD m q g.2] (λx:Unit=>vB (r)) (λx l=>l) (λ_ l=>l):=by
 refine aW.of Tryz.func100 Z Tryz.ntmps100 Z λc=>?_;unfold oF at h;refine aT<|aG (aM.box (cs:=[k,m]) Z Z) Z λn=>aB Z<|aL<|aK<|dQ (λd=>yS  d=some r) (λd o=>[]) (λd o=>[]) ?_ ?_
 ·refine aT<|aB Z<|aL<|aS<|dZ (Cu g i j) (λe p=>[(1,vI (i)),(2,vI (j)),(3,vP n),(7,vI (e))]) (λe p=>[bS n [k,m] 29]) (0:Int) () h SF (a_.refl _) ?_;intro s e p h;refine aK<|aT<|aA Z<|bN Z<|cT 0 Z<|aA Z<|dB h λf h=>aC (b_ Z Z (aD.fact 1 Z) Z Z f) Z<|aC (bX Z (aD.fact 1 Z) Z Z f) Z<|aC (fV Z (zBj (aD.fact 1 Z) f.1 f.2) Z) Z<|cN Z<|aL ?_;refine dY h Z (λh=>?_) λh=>?_
  ·refine cD<|aK<|aS<|aT<|bN Z<|cT 0 Z<|aA Z<|dB h λa h=>aC (b_ Z Z (aD.fact 1 Z) Z Z a) Z<|aC (bX Z (aD.fact 1 Z) Z Z a) Z<|aA Z<|dB h λb h=>aC (aZ Z Z (zBj (aD.fact 1 Z) a.1 a.2) Z Z b) Z<|aC (dX Z Z Z Z Z) Z<|aC (fD Z (zBj (aD.fact 1 Z) a.1 a.2) Z Z Z jX b) Z<|aA Z<|bU Z<|aL ?_;refine dY h Z (λh=>?_) λh=>?_
   ·refine aT<|aB Z<|aL<|aR<|bE<|aI<|aI<|bE<|aI ?_;cases h;exact mR Z
   refine cU<|jE<|aO<|aA Z<|cB Z<|aB Z<|aL ?_;exact uG (wI .i64 (e+(1:Int))) () h SF Z
  refine eR ?_;exact bZ () (()) h SF .nil (aE.refl _ _)
 intro d o h;unfold yS at h;refine aT<|aB Z<|aL<|aR ?_;cases h;exact gF Z
def qM (f:EM) (c:cC) (a:Int) (b:Int) (d:Int) (e:Bool):Option (iA):=
 if e=true then(some (c.2))else(if f.2.2.2.2.2=true then(ck (0<=a∧a<(c.2.length:Int)) (ck ((List.length ([(b,d)]):Int)+((at' c.2 a).length:Int)<=1099511627) (ck (0<=a∧a<(c.2.length:Int)) (ck (0<=b∧b<((List.set c.2 (Int.toNat a) (([(b,d)])++(at' c.2 a))).length:Int)) (ck ((List.length ([(a,d)]):Int)+((at' (List.set c.2 (Int.toNat a) (([(b,d)])++(at' c.2 a))) b).length:Int)<=1099511627) (ck (0<=b∧b<((List.set c.2 (Int.toNat a) (([(b,d)])++(at' c.2 a))).length:Int)) (some (List.set (List.set c.2 (Int.toNat a) (([(b,d)])++(at' c.2 a))) (Int.toNat b) (([(a,d)])++(at' (List.set c.2 (Int.toNat a) (([(b,d)])++(at' c.2 a))) b))))))))))else(ck (0<=a∧a<(c.2.length:Int)) (ck (0<=b∧b<(c.2.length:Int)) (ck (((at' c.2 a).length:Int)+(List.length ([(b,d)]):Int)<=1099511627) (ck (((at' c.2 b).length:Int)+(List.length ([(a,d)]):Int)<=1099511627) (ck (Int.toNat a≠Int.toNat b) (ck (0<=a∧a<((List.set (List.set c.2 (Int.toNat a) ((at' c.2 a)++([(b,d)]))) (Int.toNat b) ((at' c.2 b)++([(a,d)]))).length:Int)) (ck (0<=b∧b<((List.set (List.set c.2 (Int.toNat a) ((at' c.2 a)++([(b,d)]))) (Int.toNat b) ((at' c.2 b)++([(a,d)]))).length:Int)) (some (List.set (List.set c.2 (Int.toNat a) ((at' c.2 a)++([(b,d)]))) (Int.toNat b) ((at' c.2 b)++([(a,d)]))))))))))))
def nZ (U:Nat) (e:EM) (a:cC) (b:Int) (c:Int) (f:Int):Option (iA):=
 if b=c then(qM e a b c f (true))else(Option.bind (oF U ((a.1,a.2)) b c) λd=>(qM e a b c f (d)))
theorem YM:aU Tryz.prog 62:=Tryz.call62
theorem Do (U:Nat) {s:EM} {G:cC} {f:Int} {g:Int} {d:Int} (J:Value)  (K:Value)  (L:Value)  (H:Value)  (C:Value)  (A:fP) (r:iA) (h:nZ U s G f g d=some r):
  Io Tryz.prog 62 #[Value.agg #[vI (s.1),J,K,L,vB (s.2.2.2.2.1),vB (s.2.2.2.2.2)],Value.agg #[H,C],vI (f),vI (g),vI (d)] [Ar eO.raw C A,jM cW A G.2] [Sl bR J s.2.1,Sl bR K s.2.2.1,Sl bR L s.2.2.2.1,Sl bR H G.1] (λx:fP=>Value.tuple #[]) (λx l=>Ar eO.raw C x::jM cW x r::l):=by
 refine Io.of (vs:=[Value.agg #[vI (s.1),J,K,L,vB (s.2.2.2.2.1),vB (s.2.2.2.2.2)],Value.agg #[H,C],vI (f),vI (g),vI (d)]) Tryz.func62 Z Tryz.ntmps62 Z λc=>?_;refine aT<|aG (aM.box (cs:=[vI (s.1),J,K,L,vB (s.2.2.2.2.1),vB (s.2.2.2.2.2)]) Z Z) Z λb1=>aG (aM.box (cs:=[H,C]) Z Z) Z λb2=>aL<|aK<|aK<|Gg (B:=Unit) (λI=>qM s G f g d I=some r) (λI b5=>[(2,vI (f)),(3,vI (g)),(4,vI (d)),(5,vP b1),(6,vP b2),(20,vB (I))]) (λI b5=>[bS b2 [H,C] 29,bS b1 [vI (s.1),J,K,L,vB (s.2.2.2.2.1),vB (s.2.2.2.2.2)] 24,Ar eO.raw C A,jM cW A G.2]) (λI b5=>[Sl bR J s.2.1,Sl bR K s.2.2.1,Sl bR L s.2.2.2.1,Sl bR H G.1]) ?_ ?_
 ·refine aO<|aA Z<|aA Z<|bU Z<|aA Z ?_;refine AP h Z (λ_ h=>?_) λ_ h=>?_
  ·refine aH Z<|aH Z<|aH Z<|aH Z<|dC Z<|aL ?_;exact fE (true) () h SF Z
  refine aQ Z (eP 0 Z Z Z Z) Z<|cJ Z<|cJ Z<|dN h λav au h=>iP Z (zBi abC (NJ U H C (List.zip A G.2) av au) Z (aE.cons (aD.fact 3 Z) (aE.cons (bF (i:=2) (j:=3) Z Z bV) .nil))) Z λa9=>dR Z<|aL ?_;exact fE (av) () h SF Z
 intro I b5 h;refine tP h Z (λ_ h=>?_) λ_ h=>?_
 ·refine aR<|aI ?_;cases h;exact Hb (A) Z Z .ret (.inl Z) (a_.ix [2,3] Z Z) aE.nil
 refine cD<|aT<|aA Z<|aA Z ?_;refine aC (Ip (r:=Value.agg #[vI (g),vI (d)]) Z Z (by intro w;simp[Instr.build,Instr.fill,dH,cR,cI,dJ,dK,cS,eI])) Z ?_;refine aA Z<|aA Z ?_;refine aC (Ip (r:=Value.agg #[vI (f),vI (d)]) Z Z (by intro w;simp[Instr.build,Instr.fill,dH,cR,cI,dJ,dK,cS,eI])) Z ?_;refine aG (aM.alloc (cs:=Rm) Z Z) Z λb7=>aG (aM.alloc (cs:=Rm) Z Z) Z λb8=>bH 1 (vs:=[vI (g),vI (d)]) Z Z Z Z Z Z<|bH 0 (vs:=[vI (f),vI (d)]) Z Z Z Z Z Z<|aL<|aK<|aT<|bN Z<|cT 3 Z<|aL ?_;refine tP h Z (λ_ h=>?_) λ_ h=>?_
 ·refine aK ?_;refine JR.start [0,1,0,0,8,0,32,0,224,480,1016,2047,4095] 11 mixedOrders (by decide +kernel) ?_;refine zBl (by exact rfl) ?_;refine cP Z<|fG 2 Z<|aX Z<|gN 1 Z<|zBk Z Z Z (cE (e:=cW) ([((g,d))]) [(0,Value.agg #[vI (g),vI (d)])] Z Z Z Z (BZ (vI (g)) (vI (d))) Z Z Z) Z (λaV=>(oU [([3],[])] Z)) λaV=>fW Z (cO Z Z Z Z Z)<|bG Z (a_.cons 3 Z .nil) .nil (dO 0 Z Z Z Z Z) (aP.h (a_.ix [2] Z Z) .nil aP.z)<|fW Z (eY Z)<|dB h λu h=>fU (eC 6 Z) λM=>?_;refine bG Z (a_.cons 5 Z .nil) .nil (jB 0 Z Z Z Z Z u.1 (by have m:=u.2;have n:=M;(try simp only[zA1]at m);(try simp only[zA1]at n);(try simp only[zA1]);omega)) (aP.h (a_.ix [4] Z Z) .nil aP.z) ?_;refine fU (eC 6 Z) λN=>bG Z (a_.cons 5 Z .nil) .nil (nH 0 Z Z N Z Z u) (aP.h (a_.ix [4] Z Z) .nil aP.z)<|dB h λaS h=>zBk Z Z Z (eG 0 bV Z Z Z (aD.row (j:=6) Z bV u.1 u.2) Z Z Z Z aS Z) Z (λaw=>(oU [([3],[])] Z)) λaw=>bK 11 Z Z<|dB h λv h=>aC (b_ Z Z (bF (i:=5) (j:=6) Z Z bV) Z Z v) Z<|bQ (Know.one ((bB (aD.res 0 Z) bV))) λak=>eX (yV (k:=f) 6 0 Z Z Z v) ?_;refine mK 4 5 ⟨v.1,by first|exact v.2|simpa using v.2⟩ Z Z Z Z Z (by simp) ak Z ?_;refine aL<|aK ?_;refine JR.start [0,1,0,0,8,0,32,0,224,480,1016,2047,4095] 11 mixedOrders (by decide +kernel) ?_;refine zBl (by exact rfl) ?_;refine cP Z<|fG 2 Z<|aX Z<|gN 0 Z<|zBk Z Z Z (cE (e:=cW) ([((f,d))]) [(0,Value.agg #[vI (f),vI (d)])] Z Z Z Z (BZ (vI (f)) (vI (d))) Z Z Z) Z (λaW=>(oU [([3],[])] Z)) λaW=>fW Z (cO Z Z Z Z Z)<|bG Z (a_.cons 3 Z .nil) .nil (dO 0 Z Z Z Z Z) (aP.h (a_.ix [2] Z Z) .nil aP.z)<|fW Z (eY Z)<|dB h λt h=>fU (eC 6 Z) λO=>?_;refine bG Z (a_.cons 5 Z .nil) .nil (jB 0 Z Z Z Z Z t.1 (by have m:=t.2;have n:=O;(try simp only[zA1]at m);(try simp only[zA1]at n);(try simp only[zA1]);omega)) (aP.h (a_.ix [4] Z Z) .nil aP.z) ?_;refine fU (eC 6 Z) λP=>bG Z (a_.cons 5 Z .nil) .nil (nH 0 Z Z P Z Z t) (aP.h (a_.ix [4] Z Z) .nil aP.z)<|dB h λaU h=>zBk Z Z Z (eG 0 bV Z Z Z (aD.row (j:=6) Z bV t.1 (by first|exact t.2|simpa using t.2)) Z Z Z Z aU Z) Z (λax=>(oU [([3],[])] Z)) λax=>?_;refine bK 11 Z Z<|dB h λy h=>aC (b_ Z Z (bF (i:=5) (j:=6) Z Z bV) Z Z y) Z<|bQ (Know.one ((bB (aD.res 0 Z) bV))) λal=>eX (yV (k:=g) 6 0 Z Z Z y) ?_;refine mK 4 5 ⟨y.1,by first|exact y.2|simpa using y.2⟩ Z Z Z Z Z (by simp) al Z ?_;refine aL<|aR<|aI ?_;cases h;exact Hb (List.set (List.set A (Int.toNat f) aw) (Int.toNat g) ax) Z Z .ret (.inl Z) (a_.ix [4,5] Z Z) aE.nil
 refine cD<|dB h λp h=>dB h λq h=>dB h λD h=>dB h λE h=>dB h λF h=>dB h λa h=>dB h λb h=>Ot [0,1,0,0,8,0,0,64,0,448,960,0,2048,8128,0,16384,0,114688,245760,0,524288,2097088,4194247,8388551,16777215,33554431] 24 [[0,1,2,3,4,5,6,7,8,9,10,11,14,15,16,17,18,19,12,13,20,21,22,23,24,25],[0,1,2,3,4,5,6,7,8,9,10,11,14,15,16,17,18,19,12,20,13,21,22,23,24,25],[0,1,2,3,4,5,6,7,8,9,10,11,14,15,16,17,18,19,20,12,13,21,22,23,24,25]] mixedOrders (by decide +kernel) (by decide +kernel) ?_;intro o ho;simp only[zAn,zB7,or_false]at ho;rcases ho with rfl|rfl|rfl
 ·refine cP Z<|fG 2 Z<|aX Z<|cP Z<|fG 2 Z<|aX Z<|cP Z<|fG 2 Z<|aX Z<|fU (eC 5 Z) λQ=>?_;refine bG Z (a_.cons 4 Z .nil) .nil (jB 0 Z Z Z Z Z p.1 (by have m:=p.2;have n:=Q;(try simp only[zA1]at m);(try simp only[zA1]at n);(try simp only[zA1]);omega)) aP.z ?_;refine fU (eC 5 Z) λR=>bG Z (a_.cons 4 Z .nil) .nil (nH 0 Z Z R Z Z p) aP.z<|gN 1 Z<|cP Z<|fG 2 Z<|aX Z<|fU (eC 5 Z) λS=>?_;refine bG Z (a_.cons 4 Z .nil) .nil (jB 0 Z Z Z Z Z q.1 (by have m:=q.2;have n:=S;(try simp only[zA1]at m);(try simp only[zA1]at n);(try simp only[zA1]);omega)) aP.z ?_;refine fU (eC 5 Z) λT=>bG Z (a_.cons 4 Z .nil) .nil (nH 0 Z Z T Z Z q) aP.z<|gN 0 Z<|zBk Z Z Z (cE (e:=cW) ([((g,d))]) [(0,Value.agg #[vI (g),vI (d)])] Z Z Z Z (BZ (vI (g)) (vI (d))) Z Z Z) Z (λaY=>(oU [([1],[]),([5],[]),([5],[]),([3],[]),([5],[]),([5],[]),([3],[]),([3],[]),([3],[])] Z)) λaY=>zBk Z Z Z (mL 6 bV Z Z Z (bB (aD.res 0 Z) bV) Z Z Z Z p D Z) Z (λay=>(oU [([1],[]),([5],[]),([5],[]),([3],[]),([3],[]),([3],[])] Z)) λay=>zBk Z Z Z (cE (e:=cW) ([((f,d))]) [(0,Value.agg #[vI (f),vI (d)])] Z Z Z Z (BZ (vI (f)) (vI (d))) Z Z Z) Z (λa0=>(oU [([6],[]),([6],[]),([4],[]),([3],[]),([6],[]),([6],[]),([4],[]),([4],[]),([4],[])] Z)) λa0=>zBk Z Z Z (Cf (j:=f) 7 bV Z Z Z (bB (aD.res 0 Z) bV) Z Z Z Z q E Z F) Z (λaz=>(oU [([4],[]),([4],[])] Z)) λaz=>fU (eC 7 Z) λV=>?_;refine bG Z (a_.cons 6 Z .nil) .nil (jB 0 Z Z Z Z Z a.1 (by have m:=a.2;have n:=V;(try simp only[zA1]at m);(try simp only[zA1]at n);(try simp only[zA1]);omega)) (Qp Z) ?_;refine fU (ER (k:=f) (j:=g) 7 Z (by omega) ⟨a.1,by first|exact a.2|simpa using a.2⟩) λam=>?_;refine Ep Z Z Z (DU 6 7 ⟨a.1,by first|exact a.2|simpa using a.2⟩ Z Z Z Z (by simp) am Z) (λa6=>(oU [([4],[])] Z)) λa6=>?_;refine bK 24 Z Z<|bQ (eC 7 Z) λW=>?_;refine aC (jB 6 Z Z Z Z Z b.1 (by have m:=b.2;have n:=W;(try simp only[zA1]at m);(try simp only[zA1]at n);(try simp only[zA1]);omega)) Z ?_;refine bQ (zH 7 (k:=g) Z ⟨b.1,by first|exact b.2|simpa using b.2⟩) λan=>?_;refine mK 6 7 ⟨b.1,by first|exact b.2|simpa using b.2⟩ Z Z Z Z Z (by simp) an Z ?_;refine eM ?_;cases h;exact Hb (List.set (List.set A (Int.toNat f) ay) (Int.toNat g) az) Z Z .normal (.inr Z) (a_.ix [6,7] Z Z) aE.nil
 ·refine cP Z<|fG 2 Z<|aX Z<|cP Z<|fG 2 Z<|aX Z<|cP Z<|fG 2 Z<|aX Z<|fU (eC 5 Z) λX=>?_;refine bG Z (a_.cons 4 Z .nil) .nil (jB 0 Z Z Z Z Z p.1 (by have m:=p.2;have n:=X;(try simp only[zA1]at m);(try simp only[zA1]at n);(try simp only[zA1]);omega)) aP.z ?_;refine fU (eC 5 Z) λY=>bG Z (a_.cons 4 Z .nil) .nil (nH 0 Z Z Y Z Z p) aP.z<|gN 1 Z<|cP Z<|fG 2 Z<|aX Z<|fU (eC 5 Z) λaa=>?_;refine bG Z (a_.cons 4 Z .nil) .nil (jB 0 Z Z Z Z Z q.1 (by have m:=q.2;have n:=aa;(try simp only[zA1]at m);(try simp only[zA1]at n);(try simp only[zA1]);omega)) aP.z ?_;refine fU (eC 5 Z) λab=>bG Z (a_.cons 4 Z .nil) .nil (nH 0 Z Z ab Z Z q) aP.z<|gN 0 Z<|zBk Z Z Z (cE (e:=cW) ([((g,d))]) [(0,Value.agg #[vI (g),vI (d)])] Z Z Z Z (BZ (vI (g)) (vI (d))) Z Z Z) Z (λa1=>(oU [([1],[]),([5],[]),([5],[]),([3],[]),([5],[]),([5],[]),([3],[]),([3],[]),([3],[])] Z)) λa1=>zBk Z Z Z (cE (e:=cW) ([((f,d))]) [(0,Value.agg #[vI (f),vI (d)])] Z Z Z Z (BZ (vI (f)) (vI (d))) Z Z Z) Z (λa2=>(oU [([6],[]),([6],[]),([4],[]),([3],[]),([6],[]),([6],[]),([4],[]),([4],[]),([4],[])] Z)) λa2=>zBk Z Z Z (mL 7 bV Z Z Z (bB (aD.res 1 Z) bV) Z Z Z Z p D Z) Z (λaB=>(oU [([2],[]),([6],[]),([6],[]),([4],[]),([4],[]),([4],[])] Z)) λaB=>zBk Z Z Z (Cf (j:=f) 7 bV Z Z Z (bB (aD.res 0 Z) bV) Z Z Z Z q E Z F) Z (λaF=>(oU [([4],[]),([4],[])] Z)) λaF=>fU (eC 7 Z) λac=>?_;refine bG Z (a_.cons 6 Z .nil) .nil (jB 0 Z Z Z Z Z a.1 (by have m:=a.2;have n:=ac;(try simp only[zA1]at m);(try simp only[zA1]at n);(try simp only[zA1]);omega)) (Qp Z) ?_;refine fU (ER (k:=f) (j:=g) 7 Z (by omega) ⟨a.1,by first|exact a.2|simpa using a.2⟩) λao=>?_;refine Ep Z Z Z (DU 6 7 ⟨a.1,by first|exact a.2|simpa using a.2⟩ Z Z Z Z (by simp) ao Z) (λa7=>(oU [([4],[])] Z)) λa7=>?_;refine bK 24 Z Z<|bQ (eC 7 Z) λad=>?_;refine aC (jB 6 Z Z Z Z Z b.1 (by have m:=b.2;have n:=ad;(try simp only[zA1]at m);(try simp only[zA1]at n);(try simp only[zA1]);omega)) Z ?_;refine bQ (zH 7 (k:=g) Z ⟨b.1,by first|exact b.2|simpa using b.2⟩) λap=>?_;refine mK 6 7 ⟨b.1,by first|exact b.2|simpa using b.2⟩ Z Z Z Z Z (by simp) ap Z ?_;refine eM ?_;cases h;exact Hb (List.set (List.set A (Int.toNat f) aB) (Int.toNat g) aF) Z Z .normal (.inr Z) (a_.ix [6,7] Z Z) aE.nil
 refine cP Z<|fG 2 Z<|aX Z<|cP Z<|fG 2 Z<|aX Z<|cP Z<|fG 2 Z<|aX Z<|fU (eC 5 Z) λae=>?_;refine bG Z (a_.cons 4 Z .nil) .nil (jB 0 Z Z Z Z Z p.1 (by have m:=p.2;have n:=ae;(try simp only[zA1]at m);(try simp only[zA1]at n);(try simp only[zA1]);omega)) aP.z ?_;refine fU (eC 5 Z) λaf=>bG Z (a_.cons 4 Z .nil) .nil (nH 0 Z Z af Z Z p) aP.z<|gN 1 Z<|cP Z<|fG 2 Z<|aX Z<|fU (eC 5 Z) λag=>?_;refine bG Z (a_.cons 4 Z .nil) .nil (jB 0 Z Z Z Z Z q.1 (by have m:=q.2;have n:=ag;(try simp only[zA1]at m);(try simp only[zA1]at n);(try simp only[zA1]);omega)) aP.z ?_;refine fU (eC 5 Z) λah=>bG Z (a_.cons 4 Z .nil) .nil (nH 0 Z Z ah Z Z q) aP.z<|gN 0 Z<|zBk Z Z Z (cE (e:=cW) ([((f,d))]) [(0,Value.agg #[vI (f),vI (d)])] Z Z Z Z (BZ (vI (f)) (vI (d))) Z Z Z) Z (λa3=>(oU [([5],[]),([5],[]),([3],[]),([2],[]),([5],[]),([5],[]),([3],[]),([3],[]),([3],[])] Z)) λa3=>zBk Z Z Z (cE (e:=cW) ([((g,d))]) [(0,Value.agg #[vI (g),vI (d)])] Z Z Z Z (BZ (vI (g)) (vI (d))) Z Z Z) Z (λa5=>(oU [([2],[]),([6],[]),([6],[]),([4],[]),([6],[]),([6],[]),([4],[]),([4],[]),([4],[])] Z)) λa5=>zBk Z Z Z (mL 7 bV Z Z Z (bB (aD.res 0 Z) bV) Z Z Z Z p D Z) Z (λaJ=>(oU [([2],[]),([6],[]),([6],[]),([4],[]),([4],[]),([4],[])] Z)) λaJ=>zBk Z Z Z (Cf (j:=f) 7 bV Z Z Z (bB (aD.res 1 Z) bV) Z Z Z Z q E Z F) Z (λaN=>(oU [([4],[]),([4],[])] Z)) λaN=>fU (eC 7 Z) λai=>?_;refine bG Z (a_.cons 6 Z .nil) .nil (jB 0 Z Z Z Z Z a.1 (by have m:=a.2;have n:=ai;(try simp only[zA1]at m);(try simp only[zA1]at n);(try simp only[zA1]);omega)) (Qp Z) ?_;refine fU (ER (k:=f) (j:=g) 7 Z (by omega) ⟨a.1,by first|exact a.2|simpa using a.2⟩) λaq=>?_;refine Ep Z Z Z (DU 6 7 ⟨a.1,by first|exact a.2|simpa using a.2⟩ Z Z Z Z (by simp) aq Z) (λa8=>(oU [([4],[])] Z)) λa8=>?_;refine bK 24 Z Z<|bQ (eC 7 Z) λaj=>?_;refine aC (jB 6 Z Z Z Z Z b.1 (by have m:=b.2;have n:=aj;(try simp only[zA1]at m);(try simp only[zA1]at n);(try simp only[zA1]);omega)) Z ?_;refine bQ (zH 7 (k:=g) Z ⟨b.1,by first|exact b.2|simpa using b.2⟩) λar=>?_;refine mK 6 7 ⟨b.1,by first|exact b.2|simpa using b.2⟩ Z Z Z Z Z (by simp) ar Z ?_;refine eM ?_;cases h;exact Hb (List.set (List.set A (Int.toNat f) aJ) (Int.toNat g) aN) Z Z .normal (.inr Z) (a_.ix [6,7] Z Z) aE.nil
def qL (b:GX) (a:iA):Option vF:=
 some ((b.1,a))
def wJ (U:Nat) (b:EM) (i:GX) (a:Int×iA) (c:(Int×iA)->Option vF):Option vF:=
 if a.1<(a.2.length:Int)then(Option.bind (uS U b.2.1 (wI .i64 (a.1 - (1:Int)))) λd=>(Option.bind (hZ U d a.1) λe=>(Option.bind (uS U b.2.2.1 (wI .i64 (a.1 - (1:Int)))) λf=>(Option.bind (hZ U f (15:Int)) λg=>(Option.bind (nZ U ((b.1,b.2.1,b.2.2.1,b.2.2.2.1,b.2.2.2.2.1,b.2.2.2.2.2)) ((i.1,a.2)) e a.1 (wI .i64 ((1:Int)+g))) λh=>(c ((wI .i64 (a.1+(1:Int))),h)))))))else(qL i (a.2))
def nY (U:Nat) (a:EM) (c:Int):Option vF:=
 Option.bind (mV U ((a.1,a.2.1,a.2.2.1,a.2.2.2.1,a.2.2.2.2.1,a.2.2.2.2.2)) c) λb=>(bL (wJ U a b) U ((1:Int),b.2))
theorem YH:aU Tryz.prog 40:=Tryz.call40
theorem Dn (U:Nat) {p0:EM} {p1:Int} (g:Value)  (k:Value)  (n:Value) (r:GX) (h:nY U p0 p1=some r):
  aW Tryz.prog 40 #[Value.agg #[vI (p0.1),g,k,n,vB (p0.2.2.2.2.1),vB (p0.2.2.2.2.2)],vI (p1)] [Sl bR g p0.2.1,Sl bR k p0.2.2.1,Sl bR n p0.2.2.2.1] (λx:Tk=>Value.agg #[x.1,x.2.1]) (λx l=>Ar cK x.1 r.1::Ar eO.raw x.2.1 x.2.2::jM cW x.2.2 r.2::l) (λ_ l=>l):=by
 refine aW.of Tryz.func40 Z Tryz.ntmps40 Z λc=>?_;refine aT<|aG (aM.box (cs:=[vI (p0.1),g,k,n,vB (p0.2.2.2.2.1),vB (p0.2.2.2.2.2)]) Z Z) Z λu=>aG (aM.alloc (cs:=[iO,iO]) Z Z) Z λo=>aL<|aT<|cG 1 Z<|aA Z<|dN h λm P h=>aG (zBi YF (Cw U g k n m P) Z (jF [0,1,2] Z)) Z λa=>aG (aM.alloc (cs:=[iO,iO]) Z Z) Z λp=>bQ (Know.one ((bB (aD.res 1 Z) dW))) λv=>bQ (Know.one (aD.sl (bF (i:=2) (j:=3) Z Z bV))) λw=>bH 0 (vs:=[a.1,a.2.1]) Z Z (c_ v (c_ w Z)) Z Z Z<|aL<|aK<|Bn (B:=fP) (λe=>qL m e=some r) (λe f=>[(4,vP o),(5,vP p)]) (λe f=>[bS p [a.1,a.2.1] 29,Ar cK a.1 m.1,Ar eO.raw a.2.1 f,jM cW f e,bS o [iO,iO] 29]) ?_ ?_
 ·refine aT<|aB Z<|aL<|aS<|dZ (B:=fP) (wJ U p0 m) (λd b=>[(2,vP u),(4,vP o),(5,vP p),(6,vI (d.1))]) (λd b=>[bS p [a.1,a.2.1] 29,Ar cK a.1 m.1,Ar eO.raw a.2.1 b,jM cW b d.2,bS o [iO,iO] 29,bS u [vI (p0.1),g,k,n,vB (p0.2.2.2.2.1),vB (p0.2.2.2.2.2)] 24]) ((1:Int),m.2) (a.2.2) h SF (a_.refl _) ?_;intro O d b h;refine aK<|aT<|aA Z<|bN Z<|cT 0 Z<|aC (gE Z (bF (i:=2) (j:=3) Z Z bV) Z) Z<|cN Z<|aL ?_;refine dY h Z (λh=>?_) λh=>?_
  ·refine cD<|aK<|aS ?_;refine JR.start [0,0,0,4,0,16,60,0,252,0,0,1024,0,4096,15868,32252,65020,131071] 17 mixedOrders (by decide +kernel) ?_;refine zBl (by exact rfl) ?_;refine gN 5 Z<|gN 0 Z<|cP Z<|fG 5 Z<|aX Z<|fW Z (mM Z Z)<|dN h λy E h=>zBk Z Z Z (zBi Mv (Du U g y E) Z (jF [0] Z)) Z (λJ=>(oU [([0],[]),([5],[])] Z)) λJ=>fW Z (eY Z)<|dN h λA F h=>zBk Z Z Z (zBi E_ (kQ U  A F) Z .nil) Z (λK=>(oU [([0],[]),([5],[])] Z)) λK=>fW Z (eY Z)<|fW Z (cO Z Z Z Z Z)<|bG Z (a_.cons 5 Z .nil) .nil (dO 0 Z Z Z Z Z) (aP.h (a_.ix [5] Z Z) .nil (aP.h (a_.ix [5] Z Z) .nil aP.z))<|fW Z (eY Z)<|fW Z (mM Z Z)<|dN h λC G h=>zBk Z Z Z (zBi Mv (Du U k C G) Z (jF [1] Z)) Z (λL=>(oU [([0],[]),([5],[])] Z)) λL=>dN h λD H h=>zBk Z Z Z (zBi E_ (kQ U  D H) Z .nil) Z (λM=>(oU [([0],[]),([5],[])] Z)) λM=>fW Z (wH Z Z)<|bK 17 Z Z<|dN h λt I h=>aG (ES (Min:=[Ar eO.raw a.2.1 b,jM cW b d.2]) (Mr:=[bS p [a.1,a.2.1] 29,Ar cK a.1 m.1,bS o [iO,iO] 29,bS u [vI (p0.1),g,k,n,vB (p0.2.2.2.2.1),vB (p0.2.2.2.2.2)] 24]) YM (Do U g k n a.1 a.2.1 b t I) Z (a_.ix [2,3,0,1,4,5] Z Z) (aE.cons (aD.fact 0 Z) (aE.cons (aD.fact 1 Z) (aE.cons (aD.fact 2 Z) (aE.cons (bB (aD.res 1 Z) dW) .nil)))) (λ_ _=>rfl)) Z λN=>eM<|jE<|aO<|aA Z<|cB Z<|aB Z<|aL ?_;exact kM ((wI .i64 (d.1+(1:Int))),t) (N) h SF (a_.ix [2,3,0,1,4,5] Z Z) (aE.refl _ _)
  refine eR ?_;exact bZ (d.2) (b) h SF (a_.ix [0,1,2,3,4] Z Z) (aE.refl _ _)
 intro e f h;unfold qL at h;refine aT<|cG 0 Z<|bQ (Know.one ((bB (aD.res 1 Z) dW))) λq=>bQ (Know.one (aD.sl (bF (i:=2) (j:=3) Z Z bV))) λs=>bH 4 (vs:=[a.1,a.2.1]) Z Z (c_ q (c_ s Z)) Z Z Z<|aL<|aR ?_;cases h;exact iJ (a.1,a.2.1,f) Z Z (RV.cell 4 Z Z Z Z) (a_.ix [1,2,3] Z Z) aE.nil
def kN (U:Nat) (a:Int):Option (Int):=
 if a=(0:Int)then(some (32:Int))else(ck (0<=(27:Int)) (ck ((0<=(pQ .u32 (wI .u32 ((dD .u32 a (wI .u32 (0 - a)))*(125613361:Int))) (27:Int))∧(pQ .u32 (wI .u32 ((dD .u32 a (wI .u32 (0 - a)))*(125613361:Int))) (27:Int))<((32:Nat):Int))∧vE.length=32) (some (wI .i64 (at' vE (pQ .u32 (wI .u32 ((dD .u32 a (wI .u32 (0 - a)))*(125613361:Int))) (27:Int)))))))
theorem YG:aU Tryz.prog 38:=Tryz.call38
theorem AK (U:Nat) {b:Int} (r:Int) (h:kN U b=some r):
  aW Tryz.prog 38 #[vU (b)] [Gb 0 (cellsOf HN vE)] (λx:Unit=>vI (r)) (λx l=>l) (λ_ l=>l):=by
 refine aW.of Tryz.func38 Z Tryz.ntmps38 Z λc=>?_;refine aT<|aB Z<|aL<|aK<|aT<|aA Z<|bU Z<|aL ?_;refine dY h Z (λh=>?_) λh=>?_
 ·refine aT<|aB Z<|aL<|aR<|aI ?_;cases h;exact gF Z
 refine cD<|aT<|aA Z<|aA Z<|aC (RZ Z) Z<|uU Z<|aC (zT Z Z) Z<|dB h λd h=>aC (HR Z Z d) Z<|dB h λa h=>aC (RU Z Z Z Z Z a.1) Z<|aC (WP (e:=HN) Z (aD.fact 0 Z) Z Z Z Z a) Z<|aC (EX Z Z Z) Z<|aB Z<|aL<|aR ?_;cases h;exact gF Z
def kJ  (a:Unit):Option Bool:=
 some (true)
def iK (U:Nat) (d:aY) (e:Int) (a:Int) (c:(Int)->Option Bool):Option Bool:=
 if a≠(0:Int)then(Option.bind (kN U a) λb=>(ck (0<=b∧b<(d.length:Int)) (if(dD .u32 (at' d b) e)≠(0:Int)then(some (false))else(c (dD .u32 a (wI .u32 (a - (1:Int))))))))else(kJ  (()))
def m_ (U:Nat) (c:aY) (a:Int) (b:Unit):Option Bool:=
 bL (iK U c a) U (a)
def iU (U:Nat) (a:aY) (b:Int):Option Bool:=
 m_ U a b (())
theorem abT:aU Tryz.prog 173:=Tryz.call173
theorem Dm (U:Nat) {m:aY} {e:Int} (j:Value) (r:Bool) (h:iU U m e=some r):
  aW Tryz.prog 173 #[j,vU (e)] [Sl tY j m,Gb 0 (cellsOf HN vE)] (λx:Unit=>vB (r)) (λx l=>l) (λ_ l=>l):=by
 refine aW.of Tryz.func173 Z Tryz.ntmps173 Z λc=>?_;unfold iU at h;refine eX IX<|aT<|bQ (Know.one ((aD.fact 0 Z))) λw=>?_;refine aG (aM.box (cs:=[j]) Z (by rw[gQ w])) Z λC=>?_;refine aG (aM.box (cs:=[vU (e)]) Z Z) Z λD=>aG (aM.alloc (cs:=[vB (false)]) Z Z) Z λu=>aL<|aK<|DT (A:=Unit) (B:=gZ) (λk g=>⟨16,Cv g⟩) (λk=>kJ  k=some r) (λk g=>[(4,vP u)]) (λk g=>[bS u [vB (false)] 4,FH g]) (λk g=>[Sl tY j m,Gb 0 (cellsOf HN vE)]) ?_ ?_
 ·refine aT<|cT 1 Z<|zR (A:=Unit) (B:=Nat) (vs:=[vU (e)]) (λb=>m_ U m e b=some r) (λb a=>Value.func (.func 178) #[] #[vP a]) (λb a=>[bS a [vU (e)] 26,bS u [vB (false)] 4,bS D [vU (e)] 26,bS C [j] 90,FH ([]:gZ)]) (λb a=>[Sl tY j m,Gb 0 (cellsOf HN vE)]) (rV.fn (show aU Tryz.prog 136 from Tryz.call136) Z) Tryz.func136 Z Tryz.ntmps136 Z Z ?_ ?_
  ·refine aT<|aG (aM.box (cs:=[vU (e)]) Z Z) Z λo=>aB Z<|aL<|aT<|aC (yW (cs:=[.tmp 1]) (vs:=[vP o]) Z) Z<|aB Z<|aL<|aR ?_;exact qA () (o) h (.inl Z) (Gc.r1 Z (RV.tmp Z)) Z (a_.refl _) (aE.refl _ _)
  intro b a h;unfold m_ at h;refine aL<|aS<|Cz (i:=4) (cs:=[vP a]) ([]:gZ) Z (show aU Tryz.prog 178 from Tryz.call178) Z Tryz.func178 Z Tryz.ntmps178 Z λs f v p=>aS<|dZ (iK U m e) (λd n=>[(0,qI s),(1,vP a)]) (λd n=>[Lp s v LoopState.ready none,bS a [vU (d)] 26,bS u [vB (false)] 4,bS D [vU (e)] 26,bS C [j] 90,FH (List.cons f ([]:gZ))]) (e) () h SF (a_.refl _) ?_;intro E d n h;refine aK<|aT<|cT 1 Z<|kH Z<|aL ?_;refine dY h Z (λh=>?_) λh=>?_
  ·refine cD<|aK<|aS<|aT<|aA Z<|cT 1 Z<|dN h λt y h=>aG (zBi YG (AK U  t y) Z (jF [1] Z)) Z λF=>IR (us:=[vI (t)]) (i:=0) p Z Z Z Z Z Z<|aO<|aB Z<|aL<|LA (i:=0) Z<|aS<|aK ?_;refine JR.start [0,0,3,7,0,31,63] 5 mixedOrders (by decide +kernel) ?_;refine zBl (by exact rfl) ?_;refine fG 4 Z<|aX Z<|dB h λq h=>bG Z .nil (iI 0 Z) (aZ Z Z (aD.fact 0 Z) Z Z q) aP.z<|bG Z .nil (iI 0 Z) (bY Z (aD.fact 0 Z) Z Z Z DV q) aP.z<|fG 3 Z<|bK 5 Z Z<|uU Z<|kH Z<|aL ?_;refine dY h Z (λh=>?_) λh=>?_
   ·refine aT<|eB 2 Z Z Z Z Z Z<|aL<|aR<|bE<|Rx (i:=0) Z<|aC (jC Z) Z<|aL<|Px Z<|aR<|bE<|aI<|aI<|bE<|Vd (i:=0) (.inl Z) Z (Gc.r0 Z)<|bE<|aI<|kW (i:=5) (Ds:=(List.cons f ([]:gZ))) (.inl Z) Z ?_;cases h;exact iJ () Z Z (Gj 2 Z Z Z Z) .nil aE.nil
   refine cU<|HO<|Eo (i:=0) Z<|aC (jC Z) Z<|aL<|EQ Z<|cU<|jE<|aO<|cT 1 Z<|cT 1 Z<|aC (mM Z Z) Z<|uU Z<|eB 1 Z Z Z Z Z Z<|aL ?_;exact uG (dD .u32 d (wI .u32 (d - (1:Int)))) () h SF Z
  refine mJ<|d_<|d_<|sJ<|Pz (i:=0) (.inr Z) Z (Gc.r0 Z)<|jE ?_;exact rZ () (List.cons f ([]:gZ)) Z h SF (a_.ix [2,5] Z Z) (aE.refl _ _)
 intro k g h;unfold kJ at h;refine aT<|eB 0 Z Z Z Z Z Z<|aL<|aR<|kW (i:=1) (Ds:=(g)) (.inl Z) Z ?_;cases h;exact iJ () Z Z (Gj 0 Z Z Z Z) .nil aE.nil
def mF (U:Nat) (d:aY) (b:Int) (e:Int) (a:Int) (c:Bool):Option Bool:=
 if c=true then(some (false))else(if b=(1:Int)then(some (decide ((dD .u32 a (wI .u32 (a - (1:Int))))=(0:Int))))else(if b=(2:Int)then(Option.bind (iU U d a) λf=>(some (f)))else(if b=(4:Int)then(some (decide (a=e)))else(some (true)))))
def fF (U:Nat) (c:aY) (d:Int) (b:Int) (a:Int):Option Bool:=
 if a=(0:Int)then(mF U c d b a (true))else(mF U c d b a (decide ((jS .u32 a b)≠(0:Int))))
theorem PS:aU Tryz.prog 133:=Tryz.call133
theorem sG (U:Nat) {p0:aY} {p1:Int} {p2:Int} {p3:Int} (b:Value) (r:Bool) (h:fF U p0 p1 p2 p3=some r):
  aW Tryz.prog 133 #[b,vI (p1),vU (p2),vU (p3)] [Sl tY b p0,Gb 0 (cellsOf HN vE)] (λx:Unit=>vB (r)) (λx l=>l) (λ_ l=>l):=by
 refine aW.of Tryz.func133 Z Tryz.ntmps133 Z λc=>?_;refine aT<|aB Z<|aL<|aK<|aK<|dQ (λa=>mF U p0 p1 p2 p3 a=some r) (λa d=>[(0,b),(1,vI (p1)),(2,vU (p2)),(3,vU (p3)),(16,vB (a))]) (λa d=>[]) ?_ ?_
 ·refine aO<|aA Z<|bU Z<|aA Z ?_;refine AP h Z (λ_ h=>?_) λ_ h=>?_
  ·refine aH Z<|aH Z<|aH Z<|aH Z<|dC Z<|aL ?_;exact fE (true) () h SF Z
  refine cJ Z<|cJ Z<|aQ Z (wT Z Z) Z<|aQ Z (CW Z Z) Z<|dR Z<|aL ?_;exact fE (decide ((jS .u32 p3 p2)≠(0:Int))) () h SF Z
 intro a d h;refine tP h Z (λ_ h=>?_) λ_ h=>?_
 ·refine aT<|aB Z<|aL<|aR<|aI ?_;cases h;exact gF Z
 refine cD<|aK<|aT<|aA Z<|aL<|aS<|aT<|bU Z<|aB Z<|aL ?_;refine dY h Z (λh=>?_) λh=>?_
 ·refine aT<|aA Z<|aA Z<|aC (mM Z Z) Z<|uU Z<|bU Z<|aB Z<|aL<|aR<|bE<|aI ?_;cases h;exact gF Z
 refine aT<|bU Z<|aB Z<|aL ?_;refine dY h Z (λh=>?_) λh=>?_
 ·refine aT<|aA Z<|aA Z<|dN h λe f h=>aG (zBi abT (Dm U b e f) Z (jF [0,1] Z)) Z λg=>aB Z<|aL<|aR<|bE<|aI ?_;cases h;exact gF Z
 refine aT<|bU Z<|aB Z<|aL ?_;refine dY h Z (λh=>?_) λh=>?_
 ·refine aT<|aA Z<|aA Z<|bU Z<|aB Z<|aL<|aR<|bE<|aI ?_;cases h;exact gF Z
 refine cU<|jE<|aT<|aB Z<|aL<|aR ?_;cases h;exact gF Z
def kA  (a:Int):Option (Int):=
 some (a)
def iN (a:eV) (b:fO->Option (Int)) (c:Int):Option (Int):=
 b ((dD .u32 a.1 (wI .u32 (a.1 - (1:Int)))),c)
def cZ (U:Nat) (d:aY) (a:eV) (c:fO->Option (Int)):Option (Int):=
 if a.1≠(0:Int)then(Option.bind (kN U a.1) λb=>(ck (0<=b∧b<(d.length:Int)) (if(dD .u32 (at' d b) a.2)=(0:Int)then(ck (0<=b) (iN a c (I_ .u32 a.2 (AS .u32 (1:Int) b))))else(iN a c (a.2)))))else(kA  (a.2))
def mG (U:Nat) (c:aY) (b:Int) (a:Unit):Option (Int):=
 bL (cZ U c) U (b,(0:Int))
def gJ (U:Nat) (c:aY) (b:Int) (d:Int) (a:Int):Option (Int):=
 if b=(1:Int)then(some (dD .u32 a (wI .u32 (0 - a))))else(if b=(2:Int)then(mG U c a (()))else(if b=(4:Int)then(some (d))else(some (a))))
def cY (U:Nat) (b:aY) (c:Int) (a:Int) (d:Int):Option (Int):=
 if(dD .u32 d a)=(0:Int)then(gJ U b c a (dD .u32 a (wI .u32 (0 - a))))else(gJ U b c a (dD .u32 d a))
theorem Uh:aU Tryz.prog 93:=Tryz.call93
theorem sH (U:Nat) {p0:aY} {p1:Int} {p2:Int} {p3:Int} (k:Value) (r:Int) (h:cY U p0 p1 p2 p3=some r):
  aW Tryz.prog 93 #[k,vI (p1),vU (p2),vU (p3)] [Sl tY k p0,Gb 0 (cellsOf HN vE)] (λx:Unit=>vU (r)) (λx l=>l) (λ_ l=>l):=by
 refine aW.of Tryz.func93 Z Tryz.ntmps93 Z λc=>?_;refine eX IX<|aT<|bQ (Know.one ((aD.fact 0 Z))) λD=>?_;refine aG (aM.box (cs:=[k]) Z (by rw[gQ D])) Z λp=>?_;refine aB Z<|aL<|aT<|aA Z<|aA Z<|uU Z<|aB Z<|aL<|aK<|DT (A:=Int) (B:=Unit) (λg C=>⟨48,Cv ([]:gZ)⟩) (λg=>gJ U p0 p1 p2 g=some r) (λg C=>[(1,vI (p1)),(2,vU (p2)),(3,vU (g)),(4,vP p),(8,vU (0:Int))]) (λg C=>[bS p [k] 90,FH ([]:gZ)]) (λg C=>[Sl tY k p0,Gb 0 (cellsOf HN vE)]) ?_ ?_
 ·refine aT<|aA Z<|bU Z<|aL ?_;refine dY h Z (λh=>?_) λh=>?_
  ·refine aO<|aA Z<|aA Z<|aC (RZ Z) Z<|uU Z<|aB Z<|aL ?_;exact rZ (dD .u32 p2 (wI .u32 (0 - p2))) () Z h SF (a_.refl _) (aE.refl _ _)
  refine cD ?_;exact rZ (dD .u32 p3 p2) () Z h SF (a_.refl _) (aE.refl _ _)
 intro g C h;refine aK<|aT<|aA Z<|aL<|aS<|aT<|bU Z<|aB Z<|aL ?_;refine dY h Z (λh=>?_) λh=>?_
 ·refine aT<|aA Z<|aA Z<|aC (RZ Z) Z<|uU Z<|aB Z<|aL<|aR<|bE<|aI<|kW (i:=1) (Ds:=([]:gZ)) (.inl Z) Z ?_;cases h;exact mR Z
 refine aT<|bU Z<|aB Z<|aL ?_;refine dY h Z (λh=>?_) λh=>?_
 ·refine aT<|aG (aM.alloc (cs:=[vU (0:Int)]) Z Z) Z λu=>eB 0 Z Z Z Z Z Z<|aL<|aK<|DT (A:=Int) (B:=gZ) (λd e=>⟨48,Cv e⟩) (λd=>kA  d=some r) (λd e=>[(9,vP u)]) (λd e=>[bS u [vU (d)] 26,FH e]) (λd e=>[Sl tY k p0,Gb 0 (cellsOf HN vE)]) ?_ ?_
  ·refine aT<|aA Z<|zR (A:=Unit) (B:=Nat) (vs:=[vU (g)]) (λj=>mG U p0 g j=some r) (λj b=>Value.func (.func 178) #[] #[vP b]) (λj b=>[bS b [vU (g)] 26,bS u [vU (0:Int)] 26,bS p [k] 90,FH ([]:gZ)]) (λj b=>[Sl tY k p0,Gb 0 (cellsOf HN vE)]) (rV.fn (show aU Tryz.prog 136 from Tryz.call136) Z) Tryz.func136 Z Tryz.ntmps136 Z Z ?_ ?_
   ·refine aT<|aG (aM.box (cs:=[vU (g)]) Z Z) Z λt=>aB Z<|aL<|aT<|aC (yW (cs:=[.tmp 1]) (vs:=[vP t]) Z) Z<|aB Z<|aL<|aR ?_;exact qA () (t) h (.inl Z) (Gc.r1 Z (RV.tmp Z)) Z (a_.refl _) (aE.refl _ _)
   intro j b h;unfold mG at h;refine aL<|aS<|Cz (i:=3) (cs:=[vP b]) ([]:gZ) Z (show aU Tryz.prog 178 from Tryz.call178) Z Tryz.func178 Z Tryz.ntmps178 Z λy m o v=>aS<|dZ (cZ U p0) (λa q=>[(0,qI y),(1,vP b)]) (λa q=>[Lp y o LoopState.ready none,bS b [vU (a.1)] 26,bS u [vU (a.2)] 26,bS p [k] 90,FH (List.cons m ([]:gZ))]) (g,(0:Int)) () h SF (a_.refl _) ?_;intro F a q h;refine aK<|aT<|cT 1 Z<|kH Z<|aL ?_;refine dY h Z (λh=>?_) λh=>?_
   ·refine cD<|aK<|dQ (λf=>iN a (bL (cZ U p0) F) f=some r) (λf s=>[(0,qI y),(1,vP b)]) (λf s=>[Lp y o LoopState.ready none,bS b [vU (a.1)] 26,bS u [vU (f)] 26,bS p [k] 90,FH (List.cons m ([]:gZ))]) ?_ ?_
    ·refine aS<|aT<|aA Z<|cT 1 Z<|dN h λn G h=>aG (zBi YG (AK U  n G) Z (jF [1] Z)) Z λH=>IR (us:=[vI (n)]) (i:=0) v Z Z Z Z Z Z<|aO<|aB Z<|aL<|LA (i:=0) Z<|aS<|aK ?_;refine JR.start [0,0,3,7,0,31,63] 5 mixedOrders (by decide +kernel) ?_;refine zBl (by exact rfl) ?_;refine fG 3 Z<|aX Z<|dB h λw h=>bG Z .nil (iI 0 Z) (aZ Z Z (aD.fact 0 Z) Z Z w) aP.z<|bG Z .nil (iI 0 Z) (bY Z (aD.fact 0 Z) Z Z Z DV w) aP.z<|fG 2 Z<|bK 5 Z Z<|uU Z<|bU Z<|aL ?_;refine dY h Z (λh=>?_) λh=>?_
     ·refine JR.start [0,0,2,7,15] 3 mixedOrders (by decide +kernel) ?_;refine zBl (by exact rfl) ?_;refine fG 2 Z<|aX Z<|dB h λE h=>fW Z (HQ Z Z E)<|bK 3 Z Z<|aC (PG Z Z) Z<|eB 2 Z Z Z Z Z Z<|eM<|HO<|Eo (i:=0) Z<|aC (jC Z) Z<|aL<|EQ Z<|cU<|jE ?_;exact fE (I_ .u32 a.2 (AS .u32 (1:Int) n)) () h SF Z
     refine cU<|HO<|Eo (i:=0) Z<|aC (jC Z) Z<|aL<|EQ Z<|cU<|jE ?_;exact fE (a.2) () h SF Z
    intro f s h;unfold iN at h;refine aO<|cT 1 Z<|cT 1 Z<|aC (mM Z Z) Z<|uU Z<|eB 1 Z Z Z Z Z Z<|aL ?_;exact uG ((dD .u32 a.1 (wI .u32 (a.1 - (1:Int)))),f) () h SF Z
   refine mJ<|d_<|d_<|sJ<|Pz (i:=0) (.inr Z) Z (Gc.r0 Z)<|jE ?_;exact rZ (a.2) (List.cons m ([]:gZ)) Z h SF (a_.ix [2,4] Z Z) (aE.refl _ _)
  intro d e h;unfold kA at h;refine aT<|cT 0 Z<|aB Z<|aL<|aR<|bE<|aI<|kW (i:=1) (Ds:=(e)) (.inl Z) Z ?_;cases h;exact mR Z
 refine aT<|bU Z<|aB Z<|aL ?_;refine dY h Z (λh=>?_) λh=>?_
 ·refine aT<|aA Z<|aB Z<|aL<|aR<|bE<|aI<|kW (i:=1) (Ds:=([]:gZ)) (.inl Z) Z ?_;cases h;exact mR Z
 refine cU<|jE<|aT<|aA Z<|aB Z<|aL<|aR<|kW (i:=1) (Ds:=([]:gZ)) (.inl Z) Z ?_;cases h;exact mR Z
def uI  (a:Unit):Option Bool:=
 some (true)
def uJ (c:Int) (a:(Int)->Option Bool) (b:Unit):Option Bool:=
 a (wI .i64 (c+(1:Int)))
def uL (b:Int) (a:(Int)->Option Bool) (c:Bool):Option Bool:=
 if c=true then(some (false))else(a (wI .i64 (b+(1:Int))))
def uK (e:bO) (d:Int) (a:Int) (b:(Int)->Option Bool) (c:eV):Option Bool:=
 if(at' (at' e d) a)<c.1 then(uL a b (true))else(uL a b (decide (c.2<(at' (at' e d) a))))
def pR (g:cC) (d:bO) (f:aY) (b:Int) (e:(Int)->Option Bool) (a:Int) (c:(Int)->Option Bool):Option Bool:=
 if a<((at' d b).length:Int)then(ck (0<=a∧a<((at' d b).length:Int)) (ck (0<=a∧a<(f.length:Int)) (if(at' f a)=(-1:Int)then(ck (0<=b∧b<(g.2.length:Int)) (uK d b a c ((-1:Int),(wI .i64 (((at' g.2 b).length:Int) - (1:Int))))))else(uK d b a c ((0:Int),(at' f a))))))else(uJ b e (()))
def kC (U:Nat) (e:cC) (b:bO) (d:aY) (a:Int) (c:(Int)->Option Bool):Option Bool:=
 if a<(b.length:Int)then(ck (0<=a∧a<(b.length:Int)) (if((at' b a).length:Int)≠(d.length:Int)then(some (false))else(bL (pR e b d a c) U (0:Int))))else(uI  (()))
def wO (U:Nat) (a:cC) (b:bO) (c:aY):Option Bool:=
 if(b.length:Int)≠(a.1.length:Int)then(some (false))else(bL (kC U a b c) U (0:Int))
theorem YS:aU Tryz.prog 95:=Tryz.call95
theorem Cy (U:Nat) {g:cC} {e:bO} {j:aY} (o:Value)  (p:Value)  (H:jA)  (q:Value)  (E:lO)  (s:Value) (r:Bool) (h:wO U g e j=some r):
  aW Tryz.prog 95 #[Value.agg #[o,p],q,s] [Sl bR o g.1,S2 bD p H g.2,S2 bR q E e,Sl bR s j] (λx:Unit=>vB (r)) (λx l=>l) (λ_ l=>l):=by
 refine aW.of Tryz.func95 Z Tryz.ntmps95 Z λc=>?_;refine aT<|aG (aM.box (cs:=[o,p]) Z Z) Z λk=>aB Z<|aL<|aK<|aT<|aA Z<|aC (gE Z (aD.fact 2 Z) Z) Z<|bN Z<|cT 0 Z<|gW (aD.fact 0 Z) Z<|kH Z<|aL ?_;refine dY h Z (λh=>?_) λh=>?_
 ·refine aT<|aB Z<|aL<|aR<|aI ?_;cases h;exact mR Z
 refine cD<|aK<|dQ (λC=>uI  C=some r) (λC F=>[]) (λC F=>[]) ?_ ?_
 ·refine aT<|aA Z<|aC (gE Z (aD.fact 2 Z) Z) Z<|aA Z<|aL<|aS<|dZ (kC U g e j) (λa G=>[(2,s),(3,vP k),(19,q),(20,vI (e.length:Int)),(21,vI (a))]) (λa G=>[bS k [o,p] 29]) (0:Int) () h SF (a_.refl _) ?_;intro D a G h;refine aT<|cN Z<|aL<|aK ?_;refine dY h Z (λh=>?_) λh=>?_
  ·refine cD<|aK<|dQ (λm=>uJ a (bL (kC U g e j) D) m=some r) (λm t=>[(2,s),(3,vP k),(19,q),(20,vI (e.length:Int)),(21,vI (a))]) (λm t=>[bS k [o,p] 29]) ?_ ?_
   ·refine aS<|aT<|aA Z<|dB h λd h=>aC (b_ Z Z (aD.fact 2 Z) Z Z d) Z<|aC (bX Z (aD.fact 2 Z) Z Z d) Z<|aB Z<|aB Z<|aL<|aK<|aT<|aA Z<|aC (fV Z (zBj (aD.fact 2 Z) d.1 d.2) Z) Z<|aA Z<|gW (aD.fact 3 Z) Z<|kH Z<|aL ?_;refine dY h Z (λh=>?_) λh=>?_
    ·refine aT<|aB Z<|aL<|aR<|aI<|bE<|aI<|aI<|bE<|aI ?_;cases h;exact mR Z
    refine cD<|aT<|aA Z<|aC (fV Z (zBj (aD.fact 2 Z) d.1 d.2) Z) Z<|aA Z<|aL<|aS<|dZ (pR g e j a (bL (kC U g e j) D)) (λb u=>[(2,s),(3,vP k),(7,vI (a)),(19,q),(20,vI (e.length:Int)),(21,vI (a)),(31,(at' E a).1),(32,vI ((at' e a).length:Int)),(33,vI (b))]) (λb u=>[bS k [o,p] 29]) (0:Int) () h SF (a_.refl _) ?_;intro B b u h;refine aT<|cN Z<|aL<|aK ?_;refine dY h Z (λh=>?_) λh=>?_
    ·refine cD<|aK<|aS<|aT<|aA Z<|dB h λy h=>aC (aZ Z Z (zBj (aD.fact 2 Z) d.1 d.2) Z Z y) Z<|aC (bY Z (zBj (aD.fact 2 Z) d.1 d.2) Z Z Z eD y) Z<|aB Z<|aB Z<|aL<|aK ?_;refine JR.start [0,0,3,7,0,31] 5 mixedOrders (by decide +kernel) ?_;refine zBl (by exact rfl) ?_;refine aX Z<|aX Z<|dB h λA h=>bG Z .nil (iI 3 Z) (aZ Z Z (aD.fact 0 Z) Z Z A) aP.z<|bG Z .nil (iI 3 Z) (bY Z (aD.fact 0 Z) Z Z Z eD A) aP.z<|fW Z (qY Z)<|bK 5 Z Z<|aB Z<|aL<|aK<|dQ (λf=>uK e a b (bL (pR g e j a (bL (kC U g e j) D)) B) f=some r) (λf v=>[(2,s),(3,vP k),(7,vI (a)),(10,vI (at' (at' e a) b)),(11,vI (f.1)),(12,vI (f.2)),(19,q),(20,vI (e.length:Int)),(21,vI (a)),(31,(at' E a).1),(32,vI ((at' e a).length:Int)),(33,vI (b))]) (λf v=>[bS k [o,p] 29]) ?_ ?_
     ·refine aT<|aA Z<|bU Z<|aL ?_;refine dY h Z (λh=>?_) λh=>?_
      ·refine JR.start [0,1,0,7,15,31,63,0,255] 8 mixedOrders (by decide +kernel) ?_;refine zBl (by exact rfl) ?_;refine cP Z<|fG 0 Z<|aX Z<|dB h λn h=>bG Z .nil (iI 1 Z) (b_ Z Z (aD.fact 0 Z) Z Z n) aP.z<|bG Z .nil (iI 1 Z) (bX Z (aD.fact 0 Z) Z Z n) aP.z<|bG Z .nil (iI 1 Z) (fV Z (zBj (aD.fact 0 Z) n.1 n.2) Z) aP.z<|fW Z (mM Z Z)<|fW Z (qY Z)<|bK 8 Z Z<|aB Z<|aL ?_;exact fE ((-1:Int),(wI .i64 (((at' g.2 a).length:Int) - (1:Int)))) () h SF Z
      refine cD ?_;exact fE ((0:Int),(at' j b)) () h SF Z
     intro f v h;refine aK<|dQ (λi=>uL b (bL (pR g e j a (bL (kC U g e j) D)) B) i=some r) (λi w=>[(2,s),(3,vP k),(7,vI (a)),(19,q),(20,vI (e.length:Int)),(21,vI (a)),(31,(at' E a).1),(32,vI ((at' e a).length:Int)),(33,vI (b)),(58,vB (i))]) (λi w=>[bS k [o,p] 29]) ?_ ?_
     ·refine aO<|aA Z<|aA Z<|cN Z<|aA Z ?_;refine AP h Z (λ_ h=>?_) λ_ h=>?_
      ·refine aH Z<|aH Z<|aH Z<|dC Z<|aL ?_;exact fE (true) () h SF Z
      refine cJ Z<|cJ Z<|aQ Z (tM Z Z) Z<|dR Z<|aL ?_;exact fE (decide (f.2<(at' (at' e a) b))) () h SF Z
     intro i w h;refine tP h Z (λ_ h=>?_) λ_ h=>?_
     ·refine aT<|aB Z<|aL<|aR<|bE<|aI<|aI<|bE<|bE<|aI<|aI<|bE<|aI ?_;cases h;exact mR Z
     refine cU<|jE<|aO<|cB Z<|aA Z<|aL ?_;exact uG (wI .i64 (b+(1:Int))) () h SF Z
    refine mJ<|d_<|d_<|sJ<|jE ?_;exact fE () (()) h SF Z
   intro m t h;unfold uJ at h;refine aO<|cB Z<|aA Z<|aL ?_;exact uG (wI .i64 (a+(1:Int))) () h SF Z
  refine eR ?_;exact bZ () (()) h SF .nil (aE.refl _ _)
 intro C F h;unfold uI at h;refine aT<|aB Z<|aL<|aR ?_;cases h;exact gF Z
def zZ  (a:Unit):Option Bool:=
 some (true)
def Aa (b:Int) (a:(Int)->Option Bool) (c:Unit):Option Bool:=
 a (wI .i64 (b+(1:Int)))
def Ab (b:Int) (a:(Int)->Option Bool) (c:Bool):Option Bool:=
 if c=true then(some (false))else(a (wI .i64 (b+(1:Int))))
def Ac (d:cC) (e:bO) (g:Int) (a:Int) (f:(Int)->Option Bool) (b:Int) (c:(Int)->Option Bool):Option Bool:=
 if b<((at' d.2 a).length:Int)then(ck (0<=b∧b<((at' d.2 a).length:Int)) (ck (0<=a) (if(dD .u32 (pQ .u32 g a) (1:Int))=(0:Int)then(ck (0<=a∧a<(e.length:Int)) (ck (0<=(0:Int)∧(0:Int)<((at' e a).length:Int)) (ck (0<=((at' (at' d.2 a) b).1)∧((at' (at' d.2 a) b).1)<(e.length:Int)) (ck (0<=(0:Int)∧(0:Int)<((at' e ((at' (at' d.2 a) b).1)).length:Int)) (Ab b c (decide ((at' (at' e a) (0:Int))=(at' (at' e ((at' (at' d.2 a) b).1)) (0:Int)))))))))else(Ab b c (false)))))else(Aa a f (()))
def pS (U:Nat) (c:cC) (d:bO) (e:Int) (a:Int) (b:(Int)->Option Bool):Option Bool:=
 if a<(c.2.length:Int)then(ck (0<=a∧a<(c.2.length:Int)) (bL (Ac c d e a b) U (0:Int)))else(zZ  (()))
def z_ (U:Nat) (b:cC) (c:bO) (d:Int) (a:Unit):Option Bool:=
 bL (pS U b c d) U (0:Int)
def zY (U:Nat) (b:cC) (c:bO) (d:Int) (a:Bool):Option Bool:=
 if a=true then(some (false))else(z_ U b c d (()))
def EB (U:Nat) (a:cC) (b:bO) (e:Int):Option Bool:=
 Option.bind (iY U ((a.1,a.2))) λc=>(if(!c)=true then(zY U a b e (true))else(Option.bind (wO U ((a.1,a.2)) b ([(a.1.length:Int)])) λd=>(zY U a b e ((!d)))))
theorem aeG:aU Tryz.prog 58:=Tryz.call58
theorem KC (U:Nat) {p0:cC} {p1:bO} {p2:Int} (j:Value)  (f:Value)  (I:jA)  (q:Value)  (T:lO) (r:Bool) (h:EB U p0 p1 p2=some r):
  aW Tryz.prog 58 #[Value.agg #[j,f],q,vU (p2)] [Sl bR j p0.1,S2 bD f I p0.2,S2 bR q T p1] (λx:Unit=>vB (r)) (λx l=>l) (λ_ l=>l):=by
 refine aW.of Tryz.func58 Z Tryz.ntmps58 Z λc=>?_;refine eX IX<|aT<|aG (aM.box (cs:=[j,f]) Z Z) Z λb2=>bQ (Know.one (aD.sl (aD.fact 2 Z))) λW=>?_;refine aG (aM.box (cs:=[q]) Z (by rw[gQ W])) Z λF=>?_;refine aG (aM.box (cs:=[vU (p2)]) Z Z) Z λG=>aG (aM.alloc (cs:=[vB (false)]) Z Z) Z λw=>aL<|aK<|aK<|DT (A:=Bool) (B:=Unit) (λE V=>⟨47,Cv ([]:gZ)⟩) (λE=>zY U p0 p1 p2 E=some r) (λE V=>[(3,vP b2),(4,vP F),(5,vP G),(6,vP w),(21,vB (E))]) (λE V=>[bS w [vB (false)] 4,bS G [vU (p2)] 26,bS F [q] 38,bS b2 [j,f] 29,FH ([]:gZ)]) (λE V=>[Sl bR j p0.1,S2 bD f I p0.2,S2 bR q T p1]) ?_ ?_
 ·refine aO<|cG 3 Z<|dN h λaa ac h=>aG (zBi P_ (BS U j f I aa ac) Z (jF [0,1] Z)) Z λag=>aC (jC Z) Z<|aA Z ?_;refine rY (by exact rfl) (by exact rfl) (λv=>?_) (λv=>?_)
  ·have h:=Jl v h;refine aH Z<|aH Z<|aH Z<|aH Z<|aH Z<|aH Z<|aH Z<|aH Z<|dC Z<|aL ?_;exact rZ (true) () Z h SF (a_.refl _) (aE.refl _ _)
  have h:=FZ v h;refine aQ Z (eP 3 Z Z Z Z) Z<|aQ Z (dO 2 Z Z Z Z Z) Z<|aQ Z (cO Z Z Z Z Z) Z<|aQ Z (dO 3 Z Z Z Z Z) Z<|aQ Z (fV Z (aD.fact 0 Z) Z) Z<|iP Z (cE (e:=cK) ([(p0.1.length:Int)]) [(0,vI (p0.1.length:Int))] Z Z Z Z (gM (vI (p0.1.length:Int)) Z) Z Z Z) Z λab=>dN h λS ad h=>iP Z (zBi YS (Cy U j f I q T ab S ad) Z (aE.cons (aD.fact 0 Z) (aE.cons (aD.fact 1 Z) (aE.cons (aD.fact 2 Z) (aE.cons (bB (aD.res 0 Z) dW) .nil))))) Z λah=>aQ Z (jC Z) Z<|dR Z<|aL ?_;exact rZ ((!S)) () Z h SF (a_.ix [1,2,3,4,5] Z Z) (aE.refl _ _)
 intro E V h;refine tP h Z (λ_ h=>?_) λ_ h=>?_
 ·refine aT<|eB 0 Z Z Z Z Z Z<|aL<|aR<|aI<|kW (i:=4) (Ds:=([]:gZ)) (.inl Z) Z ?_;cases h;exact iJ () Z Z (Gj 0 Z Z Z Z) .nil aE.nil
 refine cD<|aK<|DT (A:=Unit) (B:=gZ) (λn k=>⟨47,Cv k⟩) (λn=>zZ  n=some r) (λn k=>[(6,vP w)]) (λn k=>[bS w [vB (false)] 4,FH k]) (λn k=>[Sl bR j p0.1,S2 bD f I p0.2,S2 bR q T p1]) ?_ ?_
 ·refine aT<|cG 3 Z<|zR (A:=Unit) (B:=Nat) (vs:=[Value.agg #[j,f]]) (λs=>z_ U p0 p1 p2 s=some r) (λs d=>Value.func (.func 138) #[] #[vP d]) (λs d=>[bS d [j,f] 29,bS w [vB (false)] 4,bS G [vU (p2)] 26,bS F [q] 38,FH ([]:gZ)]) (λs d=>[Sl bR j p0.1,S2 bD f I p0.2,S2 bR q T p1]) (rV.fn (show aU Tryz.prog 96 from Tryz.call96) Z) Tryz.func96 Z Tryz.ntmps96 Z Z ?_ ?_
  ·refine aT<|aG (aM.box (cs:=[j,f]) Z Z) Z λN=>aB Z<|aL<|aT<|aC (yW (cs:=[.tmp 1]) (vs:=[vP N]) Z) Z<|aB Z<|aL<|aR ?_;exact qA () (N) h (.inl Z) (Gc.r1 Z (RV.tmp Z)) Z (a_.ix [0,1,2,3,5] Z Z) (aE.refl _ _)
  intro s d h;unfold z_ at h;refine aL<|aS<|Cz (i:=4) (cs:=[vP d]) ([]:gZ) Z (show aU Tryz.prog 138 from Tryz.call138) Z Tryz.func138 Z Tryz.ntmps138 Z λD m y O=>aT<|bN Z<|cT 1 Z<|aC (gE Z (aD.fact 1 Z) Z) Z<|aA Z<|aL<|aS<|dZ (pS U p0 p1 p2) (λa J=>[(0,qI D),(8,f),(9,vI (p0.2.length:Int)),(10,vI (a))]) (λa J=>[Lp D y LoopState.ready none,bS d [j,f] 29,bS w [vB (false)] 4,bS G [vU (p2)] 26,bS F [q] 38,FH (List.cons m ([]:gZ))]) (0:Int) () h SF (a_.refl _) ?_;intro H a J h;refine aT<|cN Z<|aL<|aK ?_;refine dY h Z (λh=>?_) λh=>?_
  ·refine cD<|aK<|dQ (λC=>Aa a (bL (pS U p0 p1 p2) H) C=some r) (λC K=>[(0,qI D),(8,f),(9,vI (p0.2.length:Int)),(10,vI (a))]) (λC K=>[Lp D y LoopState.ready none,bS d [j,f] 29,bS w [vB (false)] 4,bS G [vU (p2)] 26,bS F [q] 38,FH (List.cons m ([]:gZ))]) ?_ ?_
   ·refine aS<|aT<|aA Z<|dB h λg h=>aC (b_ Z Z (aD.fact 1 Z) Z Z g) Z<|aC (bX Z (aD.fact 1 Z) Z Z g) Z<|aB Z<|aB Z<|aL<|aT<|aA Z<|aC (fV Z (zBj (aD.fact 1 Z) g.1 g.2) Z) Z<|aA Z<|aL<|aS<|dZ (Ac p0 p1 p2 a (bL (pS U p0 p1 p2) H)) (λb L=>[(0,qI D),(3,vI (a)),(8,f),(9,vI (p0.2.length:Int)),(10,vI (a)),(15,(at' I a).1),(16,vI ((at' p0.2 a).length:Int)),(17,vI (b))]) (λb L=>[Lp D y LoopState.ready none,bS d [j,f] 29,bS w [vB (false)] 4,bS G [vU (p2)] 26,bS F [q] 38,FH (List.cons m ([]:gZ))]) (0:Int) () h SF (a_.refl _) ?_;intro Y b L h;refine aT<|cN Z<|aL<|aK ?_;refine dY h Z (λh=>?_) λh=>?_
    ·refine cD<|aK<|aS<|aT<|dB h λP h=>aC (aZ Z Z (zBj (aD.fact 1 Z) g.1 g.2) Z Z P) Z<|aC (gX (cs:=[vI ((at' (at' p0.2 a) b).1),vI ((at' (at' p0.2 a) b).2)]) Z (zBj (aD.fact 1 Z) g.1 g.2) bV Z Z Z Z P) Z<|aG (aM.alloc (cs:=Rm) Z Z) Z λae=>bH 0 (vs:=[vI ((at' (at' p0.2 a) b).1),vI ((at' (at' p0.2 a) b).2)]) Z Z Z Z Z Z<|aL<|aT<|aA Z<|aA Z<|cG 0 Z<|IR (us:=[vI (a),Value.agg #[vI ((at' (at' p0.2 a) b).1),vI ((at' (at' p0.2 a) b).2)]]) (i:=1) O Z Z Z Z Z Z<|aT<|aB Z<|aL<|aO<|aG (aM.alloc (cs:=Rm) Z Z) Z λaf=>bH 0 (vs:=[vI ((at' (at' p0.2 a) b).1),vI ((at' (at' p0.2 a) b).2)]) Z Z Z Z Z Z<|aL<|LA (i:=2) Z<|aS<|aK<|dQ (λt=>Ab b (bL (Ac p0 p1 p2 a (bL (pS U p0 p1 p2) H)) Y) t=some r) (λt M=>[(6,vP w),(46,vB (t))]) (λt M=>[Lp D y LoopState.busy none,bS d [j,f] 29,bS w [vB (false)] 4,bS G [vU (p2)] 26,bS F [q] 38,FH (List.cons m ([]:gZ))]) ?_ ?_
     ·refine JR.start [0,0,3,7,15,31,63,63,255,511,1023,2047,63,63,8255,28735,61503,127039,258111,524287,1048575] 19 mixedOrders (by decide +kernel) ?_;refine zBl (by exact rfl) ?_;refine fG 5 Z<|aX Z<|dB h λX h=>fW Z (HR Z Z X)<|fW Z (Oz Z Z)<|fW Z (FJ Z Z)<|aX Z ?_;refine Bb (by exact rfl) (by exact rfl) (by exact rfl) (λu=>?_) (λu=>?_)
      ·have h:=Jl u h;refine eN Z (a_.cons 6 Z .nil) .nil (dO 0 Z Z Z Z Z) aP.z<|eN Z .nil .nil (eY Z) aP.z<|dB h λo h=>eN Z .nil (iI 2 Z) (b_ Z Z (aD.fact 0 Z) Z Z o) aP.z<|eN Z .nil (iI 2 Z) (bX Z (aD.fact 0 Z) Z Z o) aP.z<|dB h λQ h=>eN Z .nil (iI 2 Z) (aZ Z Z (zBj (aD.fact 0 Z) o.1 o.2) Z Z Q) aP.z<|eN Z .nil (iI 2 Z) (bY Z (zBj (aD.fact 0 Z) o.1 o.2) Z Z Z eD Q) aP.z<|eN Z (a_.cons 6 Z .nil) .nil (dO 0 Z Z Z Z Z) aP.z<|eN Z .nil .nil (cO Z Z Z Z Z) aP.z<|eN Z (a_.cons 0 Z .nil) .nil (dO 0 Z Z Z Z Z) aP.z<|dB h λp h=>eN Z .nil (iI 2 Z) (b_ Z Z (aD.fact 0 Z) Z Z p) aP.z<|eN Z .nil (iI 2 Z) (bX Z (aD.fact 0 Z) Z Z p) aP.z<|dB h λR h=>eN Z .nil (iI 2 Z) (aZ Z Z (zBj (aD.fact 0 Z) p.1 p.2) Z Z R) aP.z<|eN Z .nil (iI 2 Z) (bY Z (zBj (aD.fact 0 Z) p.1 p.2) Z Z Z eD R) aP.z<|bK 19 Z Z<|aQ Z (FJ Z Z) Z<|dC Z<|aL ?_;exact bZ (decide ((at' (at' p1 a) (0:Int))=(at' (at' p1 ((at' (at' p0.2 a) b).1)) (0:Int)))) () h SF (a_.ix [2,3,4,5,6,7] Z Z) (aE.refl _ _)
      have h:=ZI u h;refine aV Z Z Z Z<|aV Z Z Z Z<|aV Z Z Z Z<|aV Z Z Z Z<|aV Z Z Z Z<|aV Z Z Z Z<|aV Z Z Z Z<|aV Z Z Z Z<|aV Z Z Z Z<|aV Z Z Z Z<|aV Z Z Z Z<|aV Z Z Z Z<|aV Z Z Z Z<|bK 19 Z Z<|aH Z<|dR Z<|aL ?_;exact bZ (false) () h SF (a_.ix [2,3,4,5,6,7] Z Z) (aE.refl _ _)
     intro t M h;refine tP h Z (λ_ h=>?_) λ_ h=>?_
     ·refine aT<|eB 2 Z Z Z Z Z Z<|aL<|aR<|bE<|Rx (i:=0) Z<|aC (jC Z) Z<|aL<|Px Z<|aR<|bE<|aI<|aI<|bE<|bE<|aI<|aI<|bE<|Vd (i:=0) (.inl Z) Z (Gc.r0 Z)<|bE<|aI<|kW (i:=5) (Ds:=(List.cons m ([]:gZ))) (.inl Z) Z ?_;cases h;exact iJ () Z Z (Gj 2 Z Z Z Z) .nil aE.nil
     refine cU<|HO<|Eo (i:=0) Z<|aC (jC Z) Z<|aL<|EQ Z<|cU<|jE<|aO<|cB Z<|aA Z<|aL ?_;exact uG (wI .i64 (b+(1:Int))) () h SF Z
    refine mJ<|d_<|d_<|sJ<|jE ?_;exact fE () (()) h SF Z
   intro C K h;unfold Aa at h;refine aO<|cB Z<|aA Z<|aL ?_;exact uG (wI .i64 (a+(1:Int))) () h SF Z
  refine mJ<|d_<|d_<|sJ<|Pz (i:=0) (.inr Z) Z (Gc.r0 Z)<|jE ?_;exact rZ () (List.cons m ([]:gZ)) Z h SF (a_.ix [2,5] Z Z) (aE.refl _ _)
 intro n k h;unfold zZ at h;refine aT<|eB 0 Z Z Z Z Z Z<|aL<|aR<|kW (i:=1) (Ds:=(k)) (.inl Z) Z ?_;cases h;exact iJ () Z Z (Gj 0 Z Z Z Z) .nil aE.nil
def Ci  (a:aY):Option aY:=
 some (a)
def x_ (c:Int×aY×aY) (b:(Int×aY×aY)->Option aY) (a:aY×aY):Option aY:=
 b ((wI .i64 (c.1+(1:Int))),a.1,a.2)
def Cj (c:cC) (b:aY×aY) (e:(aY×aY)->Option aY) (a:Int×aY×aY) (d:(Int×aY×aY)->Option aY):Option aY:=
 if a.1<((at' c.2 (at' b.1 (0:Int))).length:Int)then(ck (0<=a.1∧a.1<((at' c.2 (at' b.1 (0:Int))).length:Int)) (ck (0<=((at' (at' c.2 (at' b.1 (0:Int))) a.1).1)∧((at' (at' c.2 (at' b.1 (0:Int))) a.1).1)<(a.2.2.length:Int)) (if(at' a.2.2 ((at' (at' c.2 (at' b.1 (0:Int))) a.1).1))<(0:Int)then(ck (0<=(at' b.1 (0:Int))∧(at' b.1 (0:Int))<(a.2.2.length:Int)) (ck (0<=((at' (at' c.2 (at' b.1 (0:Int))) a.1).1)∧((at' (at' c.2 (at' b.1 (0:Int))) a.1).1)<(a.2.2.length:Int)) (ck ((a.2.1.length:Int)+(List.length ([((at' (at' c.2 (at' b.1 (0:Int))) a.1).1)]):Int)<=1099511627) (x_ a d ((a.2.1++([((at' (at' c.2 (at' b.1 (0:Int))) a.1).1)])),(List.set a.2.2 (Int.toNat ((at' (at' c.2 (at' b.1 (0:Int))) a.1).1)) (wI .i64 ((at' a.2.2 (at' b.1 (0:Int)))+(1:Int)))))))))else(x_ a d (a.2.1,a.2.2)))))else(e (a.2.1,a.2.2))
def yA (U:Nat) (c:cC) (a:aY×aY) (b:(aY×aY)->Option aY):Option aY:=
 if(0:Int)<(a.1.length:Int)then(ck (0<=(0:Int)∧(0:Int)<(a.1.length:Int)) (ck (0<=(1:Int)∧(1:Int)<=(a.1.length:Int)) (ck (0<=(at' a.1 (0:Int))∧(at' a.1 (0:Int))<(c.2.length:Int)) (bL (Cj c a b) U ((0:Int),(List.drop (Int.toNat (1:Int)) a.1),a.2)))))else(Ci  (a.2))
def FM (U:Nat) (c:cC) (a:Int) (b:aY):Option aY:=
 ck (0<=a∧a<(b.length:Int)) (bL (yA U c) U (([a]),(List.set b (Int.toNat a) (0:Int))))
def FN (U:Nat) (c:cC) (d:Int) (a:rU) (b:xS->Option aY):Option aY:=
 if a.1<((List.replicate (Int.toNat (List.length c.2:Int)) (0:Int)).length:Int)then(ck (0<=a.1∧a.1<(a.2.length:Int)) (b ((wI .i64 (a.1+(1:Int))),(List.set a.2 (Int.toNat a.1) (-1:Int)))))else(FM U c d (a.2))
def GA (U:Nat) (a:cC) (b:Int):Option aY:=
 ck (0<=(a.2.length:Int)∧(a.2.length:Int)<=1099511627) (bL (FN U a b) U ((0:Int),(List.replicate (Int.toNat (a.2.length:Int)) (0:Int))))
theorem abD:aU Tryz.prog 117:=Tryz.call117
theorem Nw (U:Nat) {d:cC} {o:Int} (s:Value)  (t:Value)  (M:jA) (r:aY) (h:GA U d o=some r):
  aW Tryz.prog 117 #[Value.agg #[s,t],vI (o)] [Sl bR s d.1,S2 bD t M d.2] (λx:Value=>x) (λx l=>Ar cK x r::l) (λ_ l=>l):=by
 refine aW.of Tryz.func117 Z Tryz.ntmps117 Z λc=>?_;refine aT<|aG (aM.box (cs:=[s,t]) Z Z) Z λp=>aB Z<|aL<|aT<|bN Z<|cT 0 Z<|aC (gE Z (aD.fact 1 Z) Z) Z<|dB h λQ h=>aG (qB (e:=cK) (0:Int) Z Z Z Z Q Z Z Z) Z λk=>aB Z<|aL<|aK<|dQ (λu=>FM U d o u=some r) (λu N=>[(1,vI (o)),(2,vP p),(5,k)]) (λu N=>[Ar cK k u,bS p [s,t] 29]) ?_ ?_
 ·refine aT<|aA Z<|aC (fV Z (bB (aD.res 0 Z) dW) Z) Z<|aA Z<|aL<|aS<|dZ (FN U d o) (λg w=>[(1,vI (o)),(2,vP p),(5,k),(16,vI ((List.replicate (Int.toNat (List.length d.2:Int)) (0:Int)).length:Int)),(17,vI (g.1))]) (λg w=>[Ar cK k g.2,bS p [s,t] 29]) ((0:Int),(List.replicate (Int.toNat (d.2.length:Int)) (0:Int))) () h SF (a_.refl _) ?_;intro R g w h;refine aT<|cN Z<|aL<|aK ?_;refine dY h Z (λh=>?_) λh=>?_
  ·refine cD<|aK<|aS<|aT<|aA Z<|aB Z<|aL<|aO<|aA Z<|aA Z<|dB h λF h=>aC (aZ Z Z (bB (aD.res 0 Z) dW) Z Z F) Z<|zS 0 (-1:Int) F Z Z Z Z Z Z Z<|eM<|jE<|aO<|cB Z<|aA Z<|aL ?_;exact uG ((wI .i64 (g.1+(1:Int))),(List.set g.2 (Int.toNat g.1) (-1:Int))) () h SF Z
  refine eR ?_;exact fE (g.2) () h SF Z
 intro u N h;refine aT<|aA Z<|aA Z<|dB h λO h=>aC (aZ Z Z (bB (aD.res 0 Z) dW) Z Z O) Z<|zS 0 (0:Int) O Z Z Z Z Z Z Z<|aL<|aT<|aA Z<|aG (cE (e:=cK) ([o]) [(0,vI (o))] Z Z Z Z (gM (vI (o)) Z) Z Z Z) Z λT=>aB Z<|aL<|aK<|dQ (λm=>Ci  m=some r) (λm v=>[(5,k)]) (λm v=>[Ar cK k m]) ?_ ?_
 ·refine aS<|dZ (B:=Value) (yA U d) (λa q=>[(2,vP p),(5,k),(7,q)]) (λa q=>[Ar cK q a.1,Ar cK k a.2,bS p [s,t] 29]) (([o]),(List.set u (Int.toNat o) (0:Int))) (T) h SF (a_.refl _) ?_;intro G a q h;refine aK<|aT<|aA Z<|aC (fV Z (bB (aD.res 0 Z) dW) Z) Z<|aC (tM Z Z) Z<|aL ?_;refine dY h Z (λh=>?_) λh=>?_
  ·refine cD<|aS<|aT<|aA Z<|dB h λy h=>aC (aZ Z Z (bB (aD.res 0 Z) dW) Z Z y) Z<|aC (bY Z (bB (aD.res 0 Z) dW) Z Z Z eD y) Z<|aB Z<|aL<|aT<|aA Z<|dB h λH h=>aG (Rz 0 H Z Z Z Z Z Z) Z λK=>aB Z<|aL<|aT<|bN Z<|cT 2 Z<|aA Z<|dB h λi h=>aC (b_ Z Z (aD.fact 1 Z) Z Z i) Z<|aC (bX Z (aD.fact 1 Z) Z Z i) Z<|aC (fV Z (zBj (aD.fact 1 Z) i.1 i.2) Z) Z<|aA Z<|aL<|aS<|dZ (B:=Value) (Cj d a (bL (yA U d) G)) (λb j=>[(2,vP p),(5,k),(7,j),(8,vI (at' a.1 (0:Int))),(41,(at' M (at' a.1 (0:Int))).1),(42,vI ((at' d.2 (at' a.1 (0:Int))).length:Int)),(43,vI (b.1))]) (λb j=>[Ar cK j b.2.1,Ar cK k b.2.2,bS p [s,t] 29]) ((0:Int),(List.drop (Int.toNat (1:Int)) a.1),a.2) (K) h SF (a_.refl _) ?_;intro J b j h;refine aT<|cN Z<|aL<|aK ?_;refine dY h Z (λh=>?_) λh=>?_
   ·refine cD<|aK<|Bn (B:=Value) (λf=>x_ b (bL (Cj d a (bL (yA U d) G)) J) f=some r) (λf n=>[(2,vP p),(5,k),(7,n),(8,vI (at' a.1 (0:Int))),(41,(at' M (at' a.1 (0:Int))).1),(42,vI ((at' d.2 (at' a.1 (0:Int))).length:Int)),(43,vI (b.1))]) (λf n=>[Ar cK n f.1,Ar cK k f.2,bS p [s,t] 29]) ?_ ?_
    ·refine aS<|aT<|dB h λA h=>aC (aZ Z Z (zBj (aD.fact 1 Z) i.1 i.2) Z Z A) Z<|aC (gX (cs:=[vI ((at' (at' d.2 (at' a.1 (0:Int))) b.1).1),vI ((at' (at' d.2 (at' a.1 (0:Int))) b.1).2)]) Z (zBj (aD.fact 1 Z) i.1 i.2) bV Z Z Z Z A) Z<|aG (aM.alloc (cs:=Rm) Z Z) Z λP=>bH 0 (vs:=[vI ((at' (at' d.2 (at' a.1 (0:Int))) b.1).1),vI ((at' (at' d.2 (at' a.1 (0:Int))) b.1).2)]) Z Z Z Z Z Z<|aL<|aT<|aA Z<|bN Z<|cT 0 Z<|dB h λC h=>aC (aZ Z Z (bB (aD.res 2 Z) dW) Z Z C) Z<|aC (bY Z (bB (aD.res 2 Z) dW) Z Z Z eD C) Z<|cN Z<|aL ?_;refine dY h Z (λh=>?_) λh=>?_
     ·refine aK ?_;refine JR.start [0,0,2,0,0,24,56,120,255,511] 8 mixedOrders (by decide +kernel) ?_;refine zBl (by exact rfl) ?_;refine aX Z<|cP Z<|fG 0 Z<|aX Z<|aX Z<|dB h λD h=>bG Z (a_.cons 2 Z .nil) .nil (aZ Z Z (bB (aD.res 0 Z) dW) Z Z D) aP.z<|bG Z (a_.cons 2 Z .nil) .nil (bY Z (bB (aD.res 0 Z) dW) Z Z Z eD D) aP.z<|fW Z (wH Z Z)<|bK 8 Z Z<|dB h λE h=>aC (aZ Z Z (bB (aD.res 2 Z) dW) Z Z E) Z<|zS 2 (wI .i64 ((at' b.2.2 (at' a.1 (0:Int)))+(1:Int))) E Z Z Z Z Z Z Z<|aL<|aO<|aA Z<|bN Z<|cT 0 Z<|aG (cE (e:=cK) ([((at' (at' d.2 (at' a.1 (0:Int))) b.1).1)]) [(0,vI ((at' (at' d.2 (at' a.1 (0:Int))) b.1).1))] Z Z Z Z (gM (vI ((at' (at' d.2 (at' a.1 (0:Int))) b.1).1)) Z) Z Z Z) Z λS=>dB h λI h=>aG (eG 2 dW Z Z Z (bB (aD.res 0 Z) dW) Z Z Z Z I Z) Z λL=>aB Z<|eM<|jE ?_;exact bZ ((b.2.1++([((at' (at' d.2 (at' a.1 (0:Int))) b.1).1)])),(List.set b.2.2 (Int.toNat ((at' (at' d.2 (at' a.1 (0:Int))) b.1).1)) (wI .i64 ((at' b.2.2 (at' a.1 (0:Int)))+(1:Int))))) (L) h SF (a_.ix [2,3,4] Z Z) (aE.refl _ _)
     refine cU<|jE ?_;exact bZ (b.2.1,b.2.2) (j) h SF (a_.ix [1,2,3] Z Z) (aE.refl _ _)
    intro f n h;unfold x_ at h;refine aO<|cB Z<|aA Z<|aL ?_;exact uG ((wI .i64 (b.1+(1:Int))),f.1,f.2) (n) h SF Z
   refine mJ<|d_<|d_<|sJ<|jE ?_;exact uG (b.2.1,b.2.2) (j) h SF Z
  refine eR ?_;exact bZ (a.2) () h SF (a_.ix [1] Z Z) (aE.refl _ _)
 intro m v h;unfold Ci at h;refine aT<|aA Z<|aB Z<|aL<|aR ?_;cases h;exact iJ (k) Z Z (RV.tmp Z) (a_.refl _) aE.nil
def zE  (a:Unit):Option Bool:=
 some (true)
def Db (c:aY) (a:Int) (b:(Int)->Option Bool):Option Bool:=
 if a<(c.length:Int)then(ck (0<=a∧a<(c.length:Int)) (if(at' c a)<(0:Int)then(some (false))else(b (wI .i64 (a+(1:Int))))))else(zE  (()))
def DL (U:Nat) (a:cC):Option Bool:=
 Option.bind (iY U ((a.1,a.2))) λb=>(if(!b)=true then(some (false))else(Option.bind (GA U ((a.1,a.2)) (0:Int)) λc=>(bL (Db c) U (0:Int))))
theorem abK:aU Tryz.prog 137:=Tryz.call137
theorem JH (U:Nat) {k:cC} (e:Value)  (f:Value)  (m:jA) (r:Bool) (h:DL U k=some r):
  aW Tryz.prog 137 #[Value.agg #[e,f]] [Sl bR e k.1,S2 bD f m k.2] (λx:Unit=>vB (r)) (λx l=>l) (λ_ l=>l):=by
 refine aW.of Tryz.func137 Z Tryz.ntmps137 Z λc=>?_;refine aT<|aG (aM.box (cs:=[e,f]) Z Z) Z λt=>aB Z<|aL<|aK<|aT<|cG 0 Z<|dN h λp q h=>aG (zBi P_ (BS U e f m p q) Z (jF [0,1] Z)) Z λu=>aC (jC Z) Z<|aL ?_;refine tP h Z (λ_ h=>?_) λ_ h=>?_
 ·refine aT<|aB Z<|aL<|aR<|aI ?_;cases h;exact mR Z
 refine cD<|aK<|dQ (λi=>zE  i=some r) (λi n=>[]) (λi n=>[]) ?_ ?_
 ·refine aT<|cG 0 Z<|dN h λj s h=>aG (zBi abD (Nw U e f m j s) Z (jF [0,1] Z)) Z λg=>aC (fV Z (bB (aD.res 0 Z) dW) Z) Z<|aA Z<|aL<|aS<|dZ (Db j) (λa b=>[(9,g),(10,vI (j.length:Int)),(11,vI (a))]) (λa b=>[Ar cK g j]) (0:Int) () h SF (a_.ix [0] Z Z) ?_;intro o a b h;refine aT<|cN Z<|aL<|aK ?_;refine dY h Z (λh=>?_) λh=>?_
  ·refine cD<|aK<|aS<|aT<|dB h λd h=>aC (aZ Z Z (bB (aD.res 0 Z) dW) Z Z d) Z<|aC (bY Z (bB (aD.res 0 Z) dW) Z Z Z eD d) Z<|aB Z<|aL<|aT<|aA Z<|cN Z<|aL ?_;refine dY h Z (λh=>?_) λh=>?_
   ·refine aT<|aB Z<|aL<|aR<|bE<|aI<|aI<|bE<|aI ?_;cases h;exact mR Z
   refine cU<|jE<|aO<|cB Z<|aA Z<|aL ?_;exact uG (wI .i64 (a+(1:Int))) () h SF Z
  refine eR ?_;exact bZ () (()) h SF .nil (aE.refl _ _)
 intro i n h;unfold zE at h;refine aT<|aB Z<|aL<|aR ?_;cases h;exact gF Z
def OW (U:Nat) (a:cC):Option Bool:=
 Option.bind (DL U ((a.1,a.2))) λb=>(some (b))
theorem aeR:aU Tryz.prog 94:=Tryz.call94
theorem XJ (U:Nat) {d:cC} (a:Value)  (b:Value)  (e:jA) (r:Bool) (h:OW U d=some r):
  aW Tryz.prog 94 #[Value.agg #[a,b]] [Sl bR a d.1,S2 bD b e d.2] (λx:Unit=>vB (r)) (λx l=>l) (λ_ l=>l):=by
 refine aW.of Tryz.func94 Z Tryz.ntmps94 Z λc=>?_;refine aT<|aG (aM.box (cs:=[a,b]) Z Z) Z λi=>aB Z<|aL<|aT<|cG 0 Z<|dN h λf g h=>aG (zBi abK (JH U a b e f g) Z (jF [0,1] Z)) Z λj=>aB Z<|aL<|aR ?_;cases h;exact mR Z
def yZ  (a:aY):Option aY:=
 some (a)
def y_ (b:rU) (a:xS->Option aY) (c:aY):Option aY:=
 a ((wI .i64 (b.1+(1:Int))),c)
def zB (b:rU) (a:xS->Option aY) (c:aY):Option aY:=
 a ((wI .i64 (b.1+(1:Int))),c)
def sA (b:rU) (a:xS->Option aY) (c:aY):Option aY:=
 a ((wI .i64 (b.1+(1:Int))),c)
def zC (e:cC) (f:Int) (b:rU) (d:xS->Option aY) (a:rU) (c:xS->Option aY):Option aY:=
 if a.1<((at' e.2 b.1).length:Int)then(ck (0<=a.1∧a.1<((at' e.2 b.1).length:Int)) (ck (0<=b.1) (if(dD .u32 (pQ .u32 f b.1) (1:Int))=(0:Int)then(ck (0<=b.1∧b.1<(a.2.length:Int)) (ck (0<=((at' (at' e.2 b.1) a.1).1)∧((at' (at' e.2 b.1) a.1).1)<(a.2.length:Int)) (ck (0<=b.1∧b.1<(a.2.length:Int)) (sA a c (List.set a.2 (Int.toNat b.1) (min (at' a.2 b.1) (wI .i64 ((at' a.2 ((at' (at' e.2 b.1) a.1).1))+(1:Int)))))))))else(sA a c (a.2)))))else(zB b d (a.2))
def nU (U:Nat) (e:cC) (f:Int) (d:rU) (b:xS->Option aY) (a:rU) (c:xS->Option aY):Option aY:=
 if a.1<(e.2.length:Int)then(ck (0<=a.1∧a.1<(e.2.length:Int)) (bL (zC e f a c) U ((0:Int),a.2)))else(y_ d b (a.2))
def zA (U:Nat) (d:cC) (e:Int) (a:rU) (b:xS->Option aY) (c:Unit):Option aY:=
 bL (nU U d e a b) U ((0:Int),a.2)
def iR (U:Nat) (c:cC) (d:Int) (a:rU) (b:xS->Option aY):Option aY:=
 if a.1<(c.1.length:Int)then(zA U c d a b (()))else(yZ  (a.2))
def yY (U:Nat) (b:cC) (c:Int) (a:aY):Option aY:=
 bL (iR U b c) U ((0:Int),a)
def nT (b:rU) (a:xS->Option aY) (c:aY):Option aY:=
 a ((wI .i64 (b.1+(1:Int))),c)
def zD (U:Nat) (c:cC) (d:bO) (e:Int) (a:rU) (b:xS->Option aY):Option aY:=
 if a.1<((List.replicate (Int.toNat (List.length c.1:Int)) (0:Int)).length:Int)then(ck (0<=a.1) (if(dD .u32 (pQ .u32 e a.1) (1:Int))=(1:Int)then(ck (0<=a.1∧a.1<(d.length:Int)) (ck (0<=(0:Int)∧(0:Int)<((at' d a.1).length:Int)) (ck (0<=a.1∧a.1<(a.2.length:Int)) (nT a b (List.set a.2 (Int.toNat a.1) (at' (at' d a.1) (0:Int)))))))else(if(0:Int)<a.1 then(ck (0<=a.1∧a.1<(a.2.length:Int)) (nT a b (List.set a.2 (Int.toNat a.1) (c.1.length:Int))))else(nT a b (a.2)))))else(yY U c e (a.2))
def yX (U:Nat) (a:cC) (c:bO) (d:Int) (b:Bool):Option aY:=
 if b=true then(some ([]:aY))else(ck (0<=(a.1.length:Int)∧(a.1.length:Int)<=1099511627) (bL (zD U a c d) U ((0:Int),(List.replicate (Int.toNat (a.1.length:Int)) (0:Int)))))
def DJ (U:Nat) (a:cC) (b:bO) (e:Int):Option aY:=
 Option.bind (OW U ((a.1,a.2))) λc=>(if(!c)=true then(yX U a b e (true))else(Option.bind (wO U ((a.1,a.2)) b ([(a.1.length:Int),(-1:Int)])) λd=>(yX U a b e ((!d)))))
theorem aeF:aU Tryz.prog 56:=Tryz.call56
theorem JD (U:Nat) {p0:cC} {p1:bO} {p2:Int} (k:Value)  (j:Value)  (J:jA)  (E:Value)  (N:lO) (r:aY) (h:DJ U p0 p1 p2=some r):
  aW Tryz.prog 56 #[Value.agg #[k,j],E,vU (p2)] [Sl bR k p0.1,S2 bD j J p0.2,S2 bR E N p1] (λx:Value=>x) (λx l=>Ar cK x r::l) (λ_ l=>l):=by
 refine aW.of Tryz.func56 Z Tryz.ntmps56 Z λc=>?_;refine eX IX<|aT<|aG (aM.box (cs:=[k,j]) Z Z) Z λt=>aG (aM.box (cs:=[vU (p2)]) Z Z) Z λu=>aB Z<|aL<|aT<|bN Z<|cT 1 Z<|gW (aD.fact 0 Z) Z<|aB Z<|aL<|aK<|aK<|DT (A:=Bool) (B:=Unit) (λS b6=>⟨84,Cv ([]:gZ)⟩) (λS=>yX U p0 p1 p2 S=some r) (λS b6=>[(1,E),(3,vP t),(5,vP u),(6,iO),(7,vI (p0.1.length:Int)),(25,vB (S))]) (λS b6=>[bS u [vU (p2)] 26,bS t [k,j] 29,FH ([]:gZ)]) (λS b6=>[Sl bR k p0.1,S2 bD j J p0.2,S2 bR E N p1]) ?_ ?_
 ·refine aO<|cG 1 Z<|dN h λap ar h=>aG (zBi aeR (XJ U k j J ap ar) Z (jF [0,1] Z)) Z λax=>aC (jC Z) Z<|aA Z ?_;refine rY (by exact rfl) (by exact rfl) (λM=>?_) (λM=>?_)
  ·have h:=Jl M h;refine aH Z<|aH Z<|aH Z<|aH Z<|aH Z<|aH Z<|dC Z<|aL ?_;exact rZ (true) () Z h SF (a_.refl _) (aE.refl _ _)
  have h:=FZ M h;refine aQ Z (eP 1 Z Z Z Z) Z<|cJ Z<|cJ Z<|iP Z (cE (e:=cK) ([(p0.1.length:Int),(-1:Int)]) [(0,vI (p0.1.length:Int)),(1,vI (-1:Int))] Z Z Z Z (Sr (vI (p0.1.length:Int)) (vI (-1:Int)) Z Z) Z Z Z) Z λaq=>dN h λak au h=>iP Z (zBi YS (Cy U k j J E N aq ak au) Z (aE.cons (aD.fact 0 Z) (aE.cons (aD.fact 1 Z) (aE.cons (aD.fact 2 Z) (aE.cons (bB (aD.res 0 Z) dW) .nil))))) Z λay=>aQ Z (jC Z) Z<|dR Z<|aL ?_;exact rZ ((!ak)) () Z h SF (a_.ix [1,2,3] Z Z) (aE.refl _ _)
 intro S b6 h;refine tP h Z (λ_ h=>?_) λ_ h=>?_
 ·refine aT<|aB Z<|aL<|aR<|aI<|kW (i:=2) (Ds:=([]:gZ)) (.inl Z) Z<|eX (dG cK) ?_;cases h;exact iJ (iO) Z Z (RV.tmp Z) (a_.ix [0] Z Z) aE.nil
 refine cD<|aT<|aA Z<|dB h λj8 h=>aG (qB (e:=cK) (0:Int) Z Z Z Z j8 Z Z Z) Z λn=>aG (aM.alloc (cs:=[iO]) Z Z) Z λg=>bQ (Know.one ((bB (aD.res 1 Z) dW))) λac=>eB 0 Z Z ac Z Z Z<|aL<|aK<|DT (A:=aY) (B:=Unit) (λp P=>⟨84,Cv ([]:gZ)⟩) (λp=>yY U p0 p2 p=some r) (λp P=>[(3,vP t),(5,vP u),(6,iO),(7,vI (p0.1.length:Int)),(8,vP g)]) (λp P=>[bS g [n] 22,Ar cK n p,bS u [vU (p2)] 26,bS t [k,j] 29,FH ([]:gZ)]) (λp P=>[Sl bR k p0.1,S2 bD j J p0.2,S2 bR E N p1]) ?_ ?_
 ·refine aT<|cT 0 Z<|aC (fV Z (bB (aD.res 1 Z) dW) Z) Z<|aA Z<|aL<|aS<|Vb (A:=rU) (B:=Unit) (λf Q=>⟨84,Cv ([]:gZ)⟩) (zD U p0 p1 p2) (λf Q=>[(1,E),(3,vP t),(5,vP u),(6,iO),(7,vI (p0.1.length:Int)),(8,vP g),(29,vI ((List.replicate (Int.toNat (List.length p0.1:Int)) (0:Int)).length:Int)),(30,vI (f.1))]) (λf Q=>[bS g [n] 22,Ar cK n f.2,bS u [vU (p2)] 26,bS t [k,j] 29,FH ([]:gZ)]) (λf Q=>[Sl bR k p0.1,S2 bD j J p0.2,S2 bR E N p1]) ((0:Int),(List.replicate (Int.toNat (p0.1.length:Int)) (0:Int))) () Z h SF (a_.refl _) (aE.refl _ _) ?_;intro ao f Q h;refine aT<|cN Z<|aL<|aK ?_;refine dY h Z (λh=>?_) λh=>?_
  ·refine cD<|aK<|DT (A:=aY) (B:=Unit) (λs R=>⟨84,Cv ([]:gZ)⟩) (λs=>nT f (bL (zD U p0 p1 p2) ao) s=some r) (λs R=>[(1,E),(3,vP t),(5,vP u),(6,iO),(7,vI (p0.1.length:Int)),(8,vP g),(29,vI ((List.replicate (Int.toNat (List.length p0.1:Int)) (0:Int)).length:Int)),(30,vI (f.1))]) (λs R=>[bS g [n] 22,Ar cK n s,bS u [vU (p2)] 26,bS t [k,j] 29,FH ([]:gZ)]) (λs R=>[Sl bR k p0.1,S2 bD j J p0.2,S2 bR E N p1]) ?_ ?_
   ·refine aS<|aT<|aA Z<|aB Z<|aL<|aS<|aT<|cT 2 Z<|aA Z<|dB h λam h=>aC (HR Z Z am) Z<|uU Z<|bU Z<|aB Z<|aL ?_;refine dY h Z (λh=>?_) λh=>?_
    ·refine JR.start [0,0,0,0,12,28,60,124,255,511] 8 mixedOrders (by decide +kernel) ?_;refine zBl (by exact rfl) ?_;refine fG 0 Z<|aX Z<|aX Z<|aX Z<|dB h λH h=>bG Z .nil (iI 2 Z) (b_ Z Z (aD.fact 0 Z) Z Z H) aP.z<|bG Z .nil (iI 2 Z) (bX Z (aD.fact 0 Z) Z Z H) aP.z<|dB h λah h=>bG Z .nil (iI 2 Z) (aZ Z Z (zBj (aD.fact 0 Z) H.1 H.2) Z Z ah) aP.z<|bG Z .nil (iI 2 Z) (bY Z (zBj (aD.fact 0 Z) H.1 H.2) Z Z Z eD ah) aP.z<|bK 8 Z Z<|dB h λai h=>aC (aZ Z Z (bB (aD.res 1 Z) dW) Z Z ai) Z<|zS 1 (at' (at' p1 f.1) (0:Int)) ai Z Z Z Z Z Z Z<|eM<|HO<|jE ?_;exact rZ (List.set f.2 (Int.toNat f.1) (at' (at' p1 f.1) (0:Int))) () Z h SF (a_.refl _) (aE.refl _ _)
    refine aT<|aA Z<|aC (tM Z Z) Z<|aB Z<|aL ?_;refine dY h Z (λh=>?_) λh=>?_
    ·refine aO<|cT 0 Z<|aA Z<|aA Z<|dB h λaj h=>aC (aZ Z Z (bB (aD.res 1 Z) dW) Z Z aj) Z<|zS 1 (p0.1.length:Int) aj Z Z Z Z Z Z Z<|eM<|HO<|jE ?_;exact rZ (List.set f.2 (Int.toNat f.1) (p0.1.length:Int)) () Z h SF (a_.refl _) (aE.refl _ _)
    refine cU<|HO<|jE ?_;exact rZ (f.2) () Z h SF (a_.refl _) (aE.refl _ _)
   intro s R h;unfold nT at h;refine aO<|cB Z<|aA Z<|aL ?_;exact Rt ((wI .i64 (f.1+(1:Int))),s) () Z h SF (a_.refl _) (aE.refl _ _)
  refine eR ?_;exact rZ (f.2) () Z h SF (a_.refl _) (aE.refl _ _)
 intro p P h;unfold yY at h;refine aK<|DT (A:=aY) (B:=gZ) (λy C=>⟨84,Cv C⟩) (λy=>yZ  y=some r) (λy C=>[(8,vP g)]) (λy C=>[bS g [n] 22,Ar cK n y,FH C]) (λy C=>[Sl bR k p0.1,S2 bD j J p0.2,S2 bR E N p1]) ?_ ?_
 ·refine aT<|aA Z<|aA Z<|aL<|aS<|Vb (A:=rU) (B:=gZ) (λd m=>⟨84,Cv m⟩) (iR U p0 p2) (λd m=>[(3,vP t),(5,vP u),(6,iO),(8,vP g),(56,vI (p0.1.length:Int)),(57,vI (d.1))]) (λd m=>[bS g [n] 22,Ar cK n d.2,bS u [vU (p2)] 26,bS t [k,j] 29,FH m]) (λd m=>[Sl bR k p0.1,S2 bD j J p0.2,S2 bR E N p1]) ((0:Int),p) ([]:gZ) Z h SF (a_.refl _) (aE.refl _ _) ?_;intro I d m h;refine aT<|cN Z<|aL<|aK ?_;refine dY h Z (λh=>?_) λh=>?_
  ·refine cD<|aK<|DT (A:=aY) (B:=gZ) (λq D=>⟨84,Cv D⟩) (λq=>y_ d (bL (iR U p0 p2) I) q=some r) (λq D=>[(3,vP t),(5,vP u),(6,iO),(8,vP g),(56,vI (p0.1.length:Int)),(57,vI (d.1))]) (λq D=>[bS g [n] 22,Ar cK n q,bS u [vU (p2)] 26,bS t [k,j] 29,FH D]) (λq D=>[Sl bR k p0.1,S2 bD j J p0.2,S2 bR E N p1]) ?_ ?_
   ·refine aS<|aT<|cG 3 Z<|zR (A:=Unit) (B:=Nat) (vs:=[Value.agg #[k,j]]) (λL=>zA U p0 p2 d (bL (iR U p0 p2) I) L=some r) (λL o=>Value.func (.func 138) #[] #[vP o]) (λL o=>[bS o [k,j] 29,bS g [n] 22,Ar cK n d.2,bS u [vU (p2)] 26,bS t [k,j] 29,FH m]) (λL o=>[Sl bR k p0.1,S2 bD j J p0.2,S2 bR E N p1]) (rV.fn (show aU Tryz.prog 96 from Tryz.call96) Z) Tryz.func96 Z Tryz.ntmps96 Z Z ?_ ?_
    ·refine aT<|aG (aM.box (cs:=[k,j]) Z Z) Z λaa=>aB Z<|aL<|aT<|aC (yW (cs:=[.tmp 1]) (vs:=[vP aa]) Z) Z<|aB Z<|aL<|aR ?_;exact qA () (aa) h (.inl Z) (Gc.r1 Z (RV.tmp Z)) Z (a_.refl _) (aE.refl _ _)
    intro L o h;unfold zA at h;refine aL<|aS<|Cz (i:=5) (cs:=[vP o]) m Z (show aU Tryz.prog 138 from Tryz.call138) Z Tryz.func138 Z Tryz.ntmps138 Z λw K O ab=>aT<|bN Z<|cT 1 Z<|aC (gE Z (aD.fact 1 Z) Z) Z<|aA Z<|aL<|aS<|dZ (nU U p0 p2 d (bL (iR U p0 p2) I)) (λa V=>[(0,qI w),(8,j),(9,vI (p0.2.length:Int)),(10,vI (a.1))]) (λa V=>[Lp w O LoopState.ready none,bS o [k,j] 29,bS g [n] 22,Ar cK n a.2,bS u [vU (p2)] 26,bS t [k,j] 29,FH (List.cons K m)]) ((0:Int),d.2) () h SF (a_.refl _) ?_;intro T a V h;refine aT<|cN Z<|aL<|aK ?_;refine dY h Z (λh=>?_) λh=>?_
    ·refine cD<|aK<|dQ (λF=>zB a (bL (nU U p0 p2 d (bL (iR U p0 p2) I)) T) F=some r) (λF W=>[(0,qI w),(8,j),(9,vI (p0.2.length:Int)),(10,vI (a.1))]) (λF W=>[Lp w O LoopState.ready none,bS o [k,j] 29,bS g [n] 22,Ar cK n F,bS u [vU (p2)] 26,bS t [k,j] 29,FH (List.cons K m)]) ?_ ?_
     ·refine aS<|aT<|aA Z<|dB h λv h=>aC (b_ Z Z (aD.fact 1 Z) Z Z v) Z<|aC (bX Z (aD.fact 1 Z) Z Z v) Z<|aB Z<|aB Z<|aL<|aT<|aA Z<|aC (fV Z (zBj (aD.fact 1 Z) v.1 v.2) Z) Z<|aA Z<|aL<|aS<|dZ (zC p0 p2 a (bL (nU U p0 p2 d (bL (iR U p0 p2) I)) T)) (λb X=>[(0,qI w),(3,vI (a.1)),(8,j),(9,vI (p0.2.length:Int)),(10,vI (a.1)),(15,(at' J a.1).1),(16,vI ((at' p0.2 a.1).length:Int)),(17,vI (b.1))]) (λb X=>[Lp w O LoopState.ready none,bS o [k,j] 29,bS g [n] 22,Ar cK n b.2,bS u [vU (p2)] 26,bS t [k,j] 29,FH (List.cons K m)]) ((0:Int),a.2) () h SF (a_.refl _) ?_;intro an b X h;refine aT<|cN Z<|aL<|aK ?_;refine dY h Z (λh=>?_) λh=>?_
      ·refine cD<|aK<|dQ (λG=>sA b (bL (zC p0 p2 a (bL (nU U p0 p2 d (bL (iR U p0 p2) I)) T)) an) G=some r) (λG Y=>[(0,qI w),(3,vI (a.1)),(8,j),(9,vI (p0.2.length:Int)),(10,vI (a.1)),(15,(at' J a.1).1),(16,vI ((at' p0.2 a.1).length:Int)),(17,vI (b.1))]) (λG Y=>[Lp w O LoopState.ready none,bS o [k,j] 29,bS g [n] 22,Ar cK n G,bS u [vU (p2)] 26,bS t [k,j] 29,FH (List.cons K m)]) ?_ ?_
       ·refine aS<|aT<|dB h λad h=>aC (aZ Z Z (zBj (aD.fact 1 Z) v.1 v.2) Z Z ad) Z<|aC (gX (cs:=[vI ((at' (at' p0.2 a.1) b.1).1),vI ((at' (at' p0.2 a.1) b.1).2)]) Z (zBj (aD.fact 1 Z) v.1 v.2) bV Z Z Z Z ad) Z<|aG (aM.alloc (cs:=Rm) Z Z) Z λav=>bH 0 (vs:=[vI ((at' (at' p0.2 a.1) b.1).1),vI ((at' (at' p0.2 a.1) b.1).2)]) Z Z Z Z Z Z<|aL<|aT<|aA Z<|aA Z<|cG 0 Z<|IR (us:=[vI (a.1),Value.agg #[vI ((at' (at' p0.2 a.1) b.1).1),vI ((at' (at' p0.2 a.1) b.1).2)]]) (i:=1) ab Z Z Z Z Z Z<|aT<|aB Z<|aL<|aO<|aG (aM.alloc (cs:=Rm) Z Z) Z λaw=>bH 0 (vs:=[vI ((at' (at' p0.2 a.1) b.1).1),vI ((at' (at' p0.2 a.1) b.1).2)]) Z Z Z Z Z Z<|aL<|LA (i:=2) Z<|aS<|aT<|cT 6 Z<|aA Z<|dB h λal h=>aC (HR Z Z al) Z<|uU Z<|bU Z<|aL ?_;refine dY h Z (λh=>?_) λh=>?_
        ·refine JR.start [0,0,0,0,12,28,0,0,128,448,960,1984,4092,8191,16383] 13 mixedOrders (by decide +kernel) ?_;refine zBl (by exact rfl) ?_;refine fG 4 Z<|aX Z<|fG 4 Z<|aX Z<|dB h λae h=>bG Z (a_.cons 5 Z .nil) .nil (aZ Z Z (bB (aD.res 0 Z) dW) Z Z ae) aP.z<|bG Z (a_.cons 5 Z .nil) .nil (bY Z (bB (aD.res 0 Z) dW) Z Z Z eD ae) aP.z<|fG 4 Z<|cP Z<|fG 0 Z<|dB h λaf h=>bG Z (a_.cons 5 Z .nil) .nil (aZ Z Z (bB (aD.res 0 Z) dW) Z Z af) aP.z<|bG Z (a_.cons 5 Z .nil) .nil (bY Z (bB (aD.res 0 Z) dW) Z Z Z eD af) aP.z<|fW Z (wH Z Z)<|fW Z (Mo Z Z)<|bK 13 Z Z<|dB h λag h=>aC (aZ Z Z (bB (aD.res 5 Z) dW) Z Z ag) Z<|zS 5 (min (at' b.2 a.1) (wI .i64 ((at' b.2 ((at' (at' p0.2 a.1) b.1).1))+(1:Int)))) ag Z Z Z Z Z Z Z<|eM<|HO<|Eo (i:=2) Z<|aC (jC Z) Z<|aL<|EQ Z<|cU<|jE ?_;exact bZ (List.set b.2 (Int.toNat a.1) (min (at' b.2 a.1) (wI .i64 ((at' b.2 ((at' (at' p0.2 a.1) b.1).1))+(1:Int))))) () h SF (a_.ix [2,3,4,5,6,7,8] Z Z) (aE.refl _ _)
        refine cU<|HO<|Eo (i:=2) Z<|aC (jC Z) Z<|aL<|EQ Z<|cU<|jE ?_;exact bZ (b.2) () h SF (a_.ix [2,3,4,5,6,7,8] Z Z) (aE.refl _ _)
       intro G Y h;unfold sA at h;refine aO<|cB Z<|aA Z<|aL ?_;exact uG ((wI .i64 (b.1+(1:Int))),G) () h SF Z
      refine mJ<|d_<|d_<|sJ<|jE ?_;exact fE (b.2) () h SF Z
     intro F W h;unfold zB at h;refine aO<|cB Z<|aA Z<|aL ?_;exact uG ((wI .i64 (a.1+(1:Int))),F) () h SF Z
    refine mJ<|d_<|d_<|sJ<|Pz (i:=0) (.inr Z) Z (Gc.r0 Z)<|HO<|jE ?_;exact rZ (a.2) (List.cons K m) Z h SF (a_.ix [2,3,4,5,6] Z Z) (aE.refl _ _)
   intro q D h;unfold y_ at h;refine aO<|cB Z<|aA Z<|aL ?_;exact Rt ((wI .i64 (d.1+(1:Int))),q) (D) Z h SF (a_.refl _) (aE.refl _ _)
  refine eR ?_;exact rZ (d.2) (m) Z h SF (a_.ix [0,1,4] Z Z) (aE.refl _ _)
 intro y C h;unfold yZ at h;refine aT<|cT 0 Z<|aB Z<|aL<|aR<|kW (i:=2) (Ds:=(C)) (.inl Z) Z ?_;cases h;exact iJ (n) Z Z (RV.tmp Z) (a_.ix [1] Z Z) aE.nil
end Go.Proofs.YtahgemjmgopleaaGreatDoor
section
set_option maxRecDepth 100000
namespace Go.Gx
open Go Go.Sx Go.Proofs Go.Proofs.YtahgemjmgopleaaGreatDoor
noncomputable section
def ahu (a:List GV) (H:GH):OR:=a1 a λb=>ob (Qh H b) λp0=>ob (iY 1000 p0) λr=>VW r H
def ahr (a:List GV) (H:GH):OR:=a2 a λb c=>ob (ahg H b) λp0=>ob (Ze .i64 c) λp1=>ob (nY 1000 p0 p1) λr=>UG r H
def adP (a:List GV) (H:GH):OR:=a4 a λb c d e=>ob (Zg H b) λp0=>ob (Ze .i64 c) λp1=>ob (Ze .u32 d) λp2=>ob (Ze .u32 e) λp3=>ob (fF 1000 p0 p1 p2 p3) λr=>VW r H
def ahv (a:List GV) (H:GH):OR:=a4 a λb c d e=>ob (Zg H b) λp0=>ob (Ze .i64 c) λp1=>ob (Ze .u32 d) λp2=>ob (Ze .u32 e) λp3=>ob (cY 1000 p0 p1 p2 p3) λr=>some (.int .u32 r,H)
def aht (a:List GV) (H:GH):OR:=a3 a λb c d=>ob (Qh H b) λp0=>ob (Zc H c) λp1=>ob (Ze .u32 d) λp2=>ob (EB 1000 p0 p1 p2) λr=>VW r H
def ahs (a:List GV) (H:GH):OR:=a3 a λb c d=>ob (Qh H b) λp0=>ob (Zc H c) λp1=>ob (Ze .u32 d) λp2=>ob (DJ 1000 p0 p1 p2) λr=>aaa r H
def ZD (f:Nat) (a:List GV) (H:GH):Option (GV×GH):=bif Nat.beq f 75 then ahu a H else bif Nat.beq f 40 then ahr a H else bif Nat.beq f 133 then adP a H else bif Nat.beq f 93 then ahv a H else bif Nat.beq f 58 then aht a H else bif Nat.beq f 56 then ahs a H else none
abbrev gl:Nat->BV:=glb 0 (cellsOf HN vE)
def gp:GP:=⟨xT,64,ZD,ZC 232⟩
section
variable {T:Nat} {w0:fR (gl T)} {w:World} {ρ:fC} {H H':GH} {g:GV} {us:List GV} {vs:List Value}
theorem acT (h:ahu us H=some (g,H')) (R:gH w0 ρ H w) (m:pO ρ us vs):jR Tryz.prog w0 ρ 75 vs w g H':=by
 obtain⟨p,rfl,h⟩:=Ve h;obtain⟨j,c,h⟩:=aF.1 h;obtain⟨r,l,h⟩:=aF.1 h;obtain⟨o,rfl,d⟩:=m.one;obtain⟨e,i,n,rfl,a,b⟩:=Kh R d c;obtain⟨rfl,rfl⟩:=IC h;exact Fh P_ (BS 1000 (p0:=j) e i n r l) R (zAg.2 ⟨a,zAg.2 ⟨b,λf k=>absurd k zB7⟩⟩) λρ=> .bool _
theorem acQ (h:ahr us H=some (g,H')) (R:gH w0 ρ H w) (i:pO ρ us vs):jR Tryz.prog w0 ρ 40 vs w g H':=by
 obtain⟨z,A,rfl,h⟩:=Vf h;obtain⟨o,d,h⟩:=aF.1 h;obtain⟨p,e,h⟩:=aF.1 h;obtain⟨r,v,h⟩:=aF.1 h;obtain⟨x,vs,rfl,j,i⟩:=i.of_cons;obtain⟨y,rfl,k⟩:=i.one;obtain⟨l,m,n,rfl,a,b,c⟩:=acw R j d;obtain rfl:=DY k e;obtain⟨q,s,t,rfl,rfl⟩:=SO h;exact Ux adM ahl q s t YH (Dn 1000 (p0:=o) (p1:=p) l m n r v) R (zAg.2 ⟨a,zAg.2 ⟨b,zAg.2 ⟨c,λf u=>absurd u zB7⟩⟩⟩)
theorem ZG (h:adP us H=some (g,H')) (R:gH w0 ρ H w) (a:pO ρ us vs):jR Tryz.prog w0 ρ 133 vs w g H':=by
 obtain⟨z,A,B,C,rfl,h⟩:=PI h;obtain⟨m,b,h⟩:=aF.1 h;obtain⟨n,c,h⟩:=aF.1 h;obtain⟨o,d,h⟩:=aF.1 h;obtain⟨p,e,h⟩:=aF.1 h;obtain⟨r,u,h⟩:=aF.1 h;obtain⟨q,vs,rfl,i,a⟩:=a.of_cons;obtain⟨v,vs,rfl,j,a⟩:=a.of_cons;obtain⟨x,vs,rfl,k,a⟩:=a.of_cons;obtain⟨y,rfl,l⟩:=a.one;have s:=Sm R i b;obtain rfl:=DY j c;obtain rfl:=DY k d;obtain rfl:=DY l e;obtain⟨rfl,rfl⟩:=IC h;exact Fh PS (sG 1000 (p0:=m) (p1:=n) (p2:=o) (p3:=p) q r u) R (zAg.2 ⟨s,zAg.2 ⟨R.glb,λf t=>absurd t zB7⟩⟩) λρ=> .bool _
theorem acU (h:ahv us H=some (g,H')) (R:gH w0 ρ H w) (a:pO ρ us vs):jR Tryz.prog w0 ρ 93 vs w g H':=by
 obtain⟨z,A,B,C,rfl,h⟩:=PI h;obtain⟨m,b,h⟩:=aF.1 h;obtain⟨n,c,h⟩:=aF.1 h;obtain⟨o,d,h⟩:=aF.1 h;obtain⟨p,e,h⟩:=aF.1 h;obtain⟨r,u,h⟩:=aF.1 h;obtain⟨q,vs,rfl,i,a⟩:=a.of_cons;obtain⟨v,vs,rfl,j,a⟩:=a.of_cons;obtain⟨x,vs,rfl,k,a⟩:=a.of_cons;obtain⟨y,rfl,l⟩:=a.one;have s:=Sm R i b;obtain rfl:=DY j c;obtain rfl:=DY k d;obtain rfl:=DY l e;cases h;exact Fh Uh (sH 1000 (p0:=m) (p1:=n) (p2:=o) (p3:=p) q r u) R (zAg.2 ⟨s,zAg.2 ⟨R.glb,λf t=>absurd t zB7⟩⟩) λρ=> .int _ _
theorem acS (h:aht us H=some (g,H')) (R:gH w0 ρ H w) (a:pO ρ us vs):jR Tryz.prog w0 ρ 58 vs w g H':=by
 obtain⟨B,C,D,rfl,h⟩:=PH h;obtain⟨o,d,h⟩:=aF.1 h;obtain⟨p,e,h⟩:=aF.1 h;obtain⟨q,i,h⟩:=aF.1 h;obtain⟨r,v,h⟩:=aF.1 h;obtain⟨z,vs,rfl,j,a⟩:=a.of_cons;obtain⟨s,vs,rfl,k,a⟩:=a.of_cons;obtain⟨A,rfl,l⟩:=a.one;obtain⟨m,n,x,rfl,b,c⟩:=Kh R j d;obtain⟨y,t⟩:=Sk R k e;obtain rfl:=DY l i;obtain⟨rfl,rfl⟩:=IC h;exact Fh aeG (KC 1000 (p0:=o) (p1:=p) (p2:=q) m n x s y r v) R (zAg.2 ⟨b,zAg.2 ⟨c,zAg.2 ⟨t,λf u=>absurd u zB7⟩⟩⟩) λρ=> .bool _
theorem acR (h:ahs us H=some (g,H')) (R:gH w0 ρ H w) (a:pO ρ us vs):jR Tryz.prog w0 ρ 56 vs w g H':=by
 obtain⟨C,D,E,rfl,h⟩:=PH h;obtain⟨o,d,h⟩:=aF.1 h;obtain⟨p,e,h⟩:=aF.1 h;obtain⟨q,i,h⟩:=aF.1 h;obtain⟨r,x,h⟩:=aF.1 h;obtain⟨A,vs,rfl,j,a⟩:=a.of_cons;obtain⟨s,vs,rfl,k,a⟩:=a.of_cons;obtain⟨B,rfl,l⟩:=a.one;obtain⟨m,n,y,rfl,b,c⟩:=Kh R j d;obtain⟨z,t⟩:=Sk R k e;obtain rfl:=DY l i;obtain⟨u,rfl,rfl⟩:=UH h;exact acV adM u aeF (JD 1000 (p0:=o) (p1:=p) (p2:=q) m n y s z r x) R (zAg.2 ⟨b,zAg.2 ⟨c,zAg.2 ⟨t,λf v=>absurd v zB7⟩⟩⟩)
theorem Qn {f:Nat} (h:ZD f us H=some (g,H')) (R:gH w0 ρ H w) (a:pO ρ us vs):jR Tryz.prog w0 ρ f vs w g H':=by
 unfold ZD at h;cases b:Nat.beq f 75 with
 |true=>rw[b]at h;rw[zA2 b];exact acT h R a
 |false=>
 rw[b]at h;cases c:Nat.beq f 40 with
 |true=>rw[c]at h;rw[zA2 c];exact acQ h R a
 |false=>
 rw[c]at h;cases d:Nat.beq f 133 with
 |true=>rw[d]at h;rw[zA2 d];exact ZG h R a
 |false=>
 rw[d]at h;cases e:Nat.beq f 93 with
 |true=>rw[e]at h;rw[zA2 e];exact acU h R a
 |false=>
 rw[e]at h;cases i:Nat.beq f 58 with
 |true=>rw[i]at h;rw[zA2 i];exact acS h R a
 |false=>
 rw[i]at h;cases j:Nat.beq f 56 with
 |true=>rw[j]at h;rw[zA2 j];exact acR h R a
 |false=>
 rw[j]at h;cases h
end
theorem afj:ahi Tryz.prog xT=true:=by kernel_rfl
theorem Mb:gG Tryz.prog xT:=⟨Tl,afi afj⟩
theorem afG {a:BV} (b:fR a):tZ Tryz.prog b (OD xT 104 Tryz.f104):=YV Mb mixedOrders Tryz.func104 Tryz.call104 (by kernel_rfl)
theorem afc (a:Array Value) (w:World) (c:a.size=2):CallsDIn (FR none) 0 Tryz.prog 103 a .returning w λe f g=>∃v,e = .returned v∧f = .returning∧Oo w g:=by
 obtain⟨d,h,b⟩:=aab (r:=HU xT (OD xT 104 Tryz.f104) (Qa Tryz.f103) (evC xT (OD xT 104 Tryz.f104) (λ_ _ _ _=>none) (YT Tryz.f103) 0 ⟨[],0,[]⟩ (Jw [])) (Qa Tryz.f103).tail ⟨[(acu Tryz.f103,.inil)],H0⟩) (by kernel_rfl);exact WY (ch:=OD xT 104 Tryz.f104) (lp:=λ_ _ _ _=>none) Mb mixedOrders afG La Tryz.func103 Z Z Z (by decide +kernel) (λi w=>by simp[execOp,resolve,invoke,builtin]) (by kernel_rfl) (by kernel_rfl) Z (by rw[c];decide +kernel) h b
theorem ahm {i:BV} {a:FuncId->List GV->GH->Option (GV×GH)} (o:∀(b:fR i) {f us H g H'},a f us H=some (g,H')->∀c w d,gH b c H w->pO c us d->jR Tryz.prog b c f d w g H') (b:fR i):U_ Tryz.prog ⟨xT,64,a,ZC 232⟩ F_.fns b:=by
 refine⟨Mb,mixedOrders,λh=> ?_,o b,λh c w d H R n=>acH Tryz.func232 Z Z Z Z h c w d H R n,λR l j k=> ?_⟩
 ·obtain⟨e,m,h⟩:=aF.1 (show ob (Wc _) _=some _ from h);cases h;obtain⟨p,q,r⟩:=aar m;exact⟨p,q,SP r⟩
 ·exact aeX (tb:=xT) (T1:=3) (T2:=44) (cc:=103) Mb Tryz.func64 Tryz.call64 Tryz.call103 Z Z Z (Vh (by kernel_rfl)) (Vh (by kernel_rfl)) (Wm Z Z) (Wm Z Z) (ZR Z Z) (ZR Z Z) afc R l j k
theorem TF {T:Nat} (a:fR (gl T)):U_ Tryz.prog gp F_.fns a:=ahm (λa f d H g c h i w e R b=>Qn h R b) a
def gp0:GP:=⟨xT,64,λ_ _ _=>none,ZC 232⟩
theorem acJ (a:fR noG):U_ Tryz.prog gp0 F_.fns a:=ahm (λa f c H g b h=>by cases h) a
end
end Go.Gx
end
