/- Models and proofs. Conditions: none. -/
import Derived.Test.YtflciafboapaaaaGreatZRSp4
import Derived.Test.YtflciafboapaaaaGreatZRSp2
import Derived.Test.YtflciafboapaaaaGreatZRSp1
set_option linter.unusedVariables false
set_option linter.unusedSimpArgs false
set_option maxHeartbeats 4000000
set_option maxRecDepth 20000
namespace Go.Gx
open Go Go.Sx
noncomputable section
def adw {a:Type} (c:Nat) (d:List GV->Option a) (n:Nat):List GV->Option (List a):=Nat.rec (motive:=λ_=>List GV->Option (List a)) (λ_=>some []) (λ_ e b=>ob (d (b.take c)) λy=>ob (e (b.drop c)) λf=>some (y::f)) n
def SI {b:Type} (H:GH) (a:Nat) (d:List GV->Option b) (v:GV):Option (List b):=ob (vZ H a v) λp=>bif Nat.ble p.1 1099511627776 then adw a d p.1 p.2 else none
def dI (k:IntKind) (a:List GV):Option Int:=List.casesOn (motive:=λ_=>Option Int) a none λc r=>List.casesOn (motive:=λ_=>Option Int) r (ob c.asI λp=>bif decide (p.1=k)then some p.2 else none) λ_ _=>none
def dP {b c:Type} (n:Nat) (d:List GV->Option b) (e:List GV->Option c) (a:List GV):Option (b×c):=ob (d (a.take n)) λx=>ob (e (a.drop n)) λy=>some (x,y)
def dS {a:Type} (H:GH) (e:Nat) (d:List GV->Option a) (b:List GV):Option (List a):=List.casesOn (motive:=λ_=>Option (List a)) b none λc r=>List.casesOn (motive:=λ_=>Option (List a)) r (SI H e d c) λ_ _=>none
end
section
variable {P:Program} {gs:CE} {w0:gN gs} {w:World} {ρ:fJ} {H:GH} {S:Nat->Prop}
def All (_:Nat):Prop:=True
def kD {b c:Type} (S:Nat->Prop) (ρ:fJ) (w:World) (d:List GV->Option c) (r:eK b) (e:b->c):Prop:=∀gs a y,rQ ρ gs a->d gs=some y->gs.length=r.sz->∃z,e z=y/\r.R w S a z
theorem kD.int (k:IntKind):kD S ρ w (dI k) (eK.int k) id:=λgs f y b h _=>by
 cases gs with
 |nil=>cases h
 |cons c gs=>
 cases gs with
 |cons _ _=>cases h
 |nil=>
 obtain⟨p,e,h⟩:=aF.1 (show ob c.asI _=some y from h);obtain⟨a,h⟩:=cA.1 h;cases h;obtain⟨v,f,rfl,d,b⟩:=b.of_cons;rw[b.of_nil];rw[nJ e]at d;rw[d.int_inv];have a:=zAx a;exact⟨p.2,rfl,by rw[a];rfl⟩
theorem kD.pair {q t b c:Type} {d:List GV->Option b} {e:List GV->Option c} {r:eK q} {s:eK t} {m:q->b} {n:t->c} (u:kD S ρ w d r m) (A:kD S ρ w e s n):kD S ρ w (dP r.sz d e) (eK.pair r s) (λz=>(m z.1,n z.2)):=λgs l y f h p=>by
 obtain⟨x,B,h⟩:=aF.1 (show ob (d (gs.take r.sz)) _=some y from h);obtain⟨F,j,h⟩:=aF.1 h;cases h;have p:gs.length=r.sz+s.sz:=p;have E:=f.len;obtain⟨z,rfl,C⟩:=u _ (l.take r.sz) _ (by simpa using f.sub 0 r.sz) B (by simp;omega);obtain⟨D,rfl,k⟩:=A _ (l.drop r.sz) _ ⟨by simp;omega,λi g v o a=>by rw[zAr]at o a;exact f.at' _ _ _ o a⟩ j (by simp;omega);exact⟨(z,D),rfl,_,_,(zB7 r.sz l).symm,C,k⟩
theorem Uk {C D:Type} {d:List GV->Option D} {r:eK C} {E:C->D} (F:kD S ρ w d r E) (b:Nat):∀(n:Nat) (f:List GV) (m:List V0) (a:Nat) (l:List D),adw r.sz d n f=some l->rQ ρ f m->f.length=n*r.sz->(∀(j:Nat) x,m[j]? = some x->w.cell? ⟨b,a+j,none⟩=some x)->
  ∃p:List C,p.map E=l/\p.length=n/\∀(i:Nat) z,p[i]? = some z->∃q,(∀(j:Nat) e,q[j]? = some e->w.cell? ⟨b,a+(i*r.sz+j),none⟩=some e)/\r.R w S q z
 |0,f,m,a,l,h,hr,hl,hc=>by
  cases h;exact⟨[],rfl,rfl,λi z t=>by simp at t⟩
 | n + 1, f, m, a, l, h, hr, hl, hc => by
  obtain⟨y,M,h⟩:=aF.1 (show ob (d (f.take r.sz)) (λy=>ob (adw r.sz d n (f.drop r.sz)) λl=>some (y::l))=some l from h);obtain⟨B,s,h⟩:=aF.1 h;cases h;rw[Nat.succ_mul]at hl;have O:=hr.len;obtain⟨z,rfl,t⟩:=F _ (m.take r.sz) _ (by simpa using hr.sub 0 r.sz) M (by simp;omega);obtain⟨p,rfl,u,A⟩:=Uk F b n (f.drop r.sz) (m.drop r.sz) (a+r.sz) B s ⟨by simp;omega,λi g v G o=>by rw[zAr]at G o;exact hr.at' _ _ _ G o⟩ (by simp;omega) (λj x J=>by
   rw[zAr]at J;rw[Nat.add_assoc];exact hc _ _ J)
  refine⟨z::p,rfl,by simp[u],λi N c=> ?_⟩
  cases i with
  | zero =>
   simp at c;subst c;refine⟨_,λj e k=> ?_,t⟩
   rw[zAq]at k;by_cases I:j<r.sz
   ·rw[if_pos I]at k;have:=hc j e k;simpa using this
   ·rw[if_neg I]at k;cases k
  |succ i=>
   simp at c;obtain⟨q,K,L⟩:=A i N c;refine⟨q,λj e k=> ?_,L⟩
   have:=K j e k;rw[Nat.succ_mul];rw[show a+(i*r.sz+r.sz+j)=a+r.sz+(i*r.sz+j) by omega];exact this
theorem Qz (R:iO w0 ρ H w) {v:GV} {V:V0} {B:Nat} {p:Nat×List GV} (t:Rl ρ v V) (h:vZ H B v=some p):
  p.2.length=p.1*B/\∃a c,V = .slice a p.1 c/\p.1<=c/\(p.1=0\/∃b i o,a=some ⟨b,i,none⟩/\w0.mine b/\rQ ρ p.2 o/\∀(j:Nat) x,o[j]? = some x->w.cell? ⟨b,i+j,none⟩=some x):=by
 obtain⟨o,C⟩:=Fp R t h;refine⟨by rw[C.rel.len,C.len],?_⟩
 obtain⟨f,c,y,D,F⟩:=C.val;refine⟨f,c,y,D,?_⟩
 rcases F with⟨_,m,_⟩|⟨A,rfl,d⟩
 ·exact .inl m
 ·by_cases m:p.1=0
  ·exact .inl m
  ·refine .inr ?_;unfold vZ at h;cases z:v.isSnil with
   |true=>rw[z]at h;cases h;exact absurd Z m
   | false =>
    rw[z]at h;obtain⟨s,I,h⟩:=aF.1 (show ob v.asS _=some p from h);rw[Ek I,y]at t;obtain⟨l,u,K,G,e,E,n⟩:=t.sl_inv;injection e with k M N;injection k with k;rcases n with n|⟨n,_⟩
    ·omega
    ·rw[n]at k;subst k;have r:w0.mine l.b:=by
      obtain⟨_,h⟩:=cA.1 h;obtain⟨L,q,_⟩:=aF.1 h;obtain⟨O,g,r,_⟩:=R.live _ _ (jZ.1 q);rw[G]at g;cases g;exact r
     exact⟨l.b,l.off+s.2.1,o,rfl,r,C.rel,λj x J=>by have:=d j x J;rwa[fC]at this⟩
theorem ID {m n:Type} {d:List GV->Option n} {r:eK m} {o:m->n} (R:iO w0 ρ H w) (t:∀k,w0.mine k->S k) (u:kD S ρ w d r o) {v:GV} {V:V0} {j:List n} (B:Rl ρ v V) (h:SI H r.sz d v=some j):∃l:List m,l.map o=j/\Gd r w S V l:=by
 obtain⟨p,z,h⟩:=aF.1 (show ob (vZ H r.sz v) _=some j from h);obtain⟨g,h⟩:=cA.1 h;have g:p.1<=1099511627776:=by simpa using g
 obtain⟨i,a,f,rfl,E,x⟩:=Qz R B z;rcases x with q|⟨b,e,D,rfl,y,A,c⟩
 ·rw[q]at h;cases h;exact⟨[],rfl,a,f,by rw[q];rfl,by simp,.inl Z⟩
 ·obtain⟨l,rfl,s,C⟩:=Uk u b p.1 p.2 D e j h A i c;exact⟨l,rfl,some ⟨b,e,none⟩,f,by rw[s],by rw[s];omega,.inr ⟨b,e,rfl,t b y,C⟩⟩
theorem kD.sl {e f:Type} {d:List GV->Option f} {r:eK e} {b:e->f} (R:iO w0 ρ H w) (g:∀k,w0.mine k->S k) (i:kD S ρ w d r b):kD S ρ w (dS H r.sz d) (eK.sl r) (λz=>z.2.map b):=λgs vs y a h n=>by
 cases gs with
 |nil=>cases h
 |cons c gs=>
 cases gs with
 |cons _ _=>cases h
 |nil=>
 have h:SI H r.sz d c=some y:=h;obtain⟨v,vs,rfl,j,a⟩:=a.of_cons;rw[a.of_nil];obtain⟨m,rfl,l⟩:=ID R g i j h;exact⟨(v,m),rfl,rfl,l⟩
end
noncomputable section
def yE {c:Type} (e:Nat) (g:c->List GV) (a:List (List c)):GH->List GV×GH:=List.rec (motive:=λ_=>GH->List GV×GH) (λH=>([],H)) (λb _ d H=>let r:=d (H.new (.cells (b.flatMap g)));(.sl H.n 0 b.length e::r.1,r.2)) a
end
section
variable {P:Program} {gs:CE} {w0:gN gs} {w:World} {ρ:fJ} {H:GH}
def Hy (ρ:fJ) (H:GH) (B:Nat->Prop):Prop:=∀h o l,H.get h=some o->ρ h=some l->¬B l.b
theorem Hy.mono {B b:Nat->Prop} (h:Hy ρ H B) (f:∀k,b k->B k):Hy ρ H b:=λa o l c d e=>h a o l c d (f _ e)
theorem Hy.start (R:iO w0 ρ H w):Hy ρ H (λk=>w.heap.size<=k):=λh o l b c e=>by
 obtain⟨f,a,_,d⟩:=R.live h o b;rw[c]at a;cases a;have:=d.lt;omega
theorem JG {N:Type} {e:bJ N} {d:List N} {cs:List GV} {v:V0} {B F:Nat->Prop} (R:iO w0 ρ H w) (A:Hy ρ H B) (U:∀k,B k->w0.mine k) (s:∀k,F k->B k) (V:Br e w F v d) (E:d≠[]) (t:rQ ρ cs (cellsOf e d)):
  ∃f,ρ.le f/\iO w0 f (H.new (.cells cs)) w/\Rl f (.sl H.n 0 d.length e.sz) v/\Hy f (H.new (.cells cs)) (λk=>B k/\¬F k):=by
 obtain⟨_,y,W⟩:=V;rcases W with⟨_,S⟩|⟨b,p,r,T,c,rfl,C,I,D,G,a⟩
 ·exact absurd S E
 have M:(cellsOf e d).length=d.length*e.sz:=by
  rw[<-a];simp;have:d.length*e.sz<=r*e.sz:=zAw _ D;omega
 have u:ρ.le (ρ.upd H.n ⟨b,p,c.size,.cells c T (0,0),.cells cs⟩):=BA (R.fresh _ (zAh _));have J:d.length*e.sz<=r*e.sz:=zAw _ D;obtain⟨_,O⟩:=R.new (o:= .cells cs) (l:=⟨b,p,c.size,.cells c T (0,0),.cells cs⟩) R.ext (λh o' Y j m=>⟨rfl,λQ=>A h o' Y j m (by rw[Q];exact s _ C)⟩) (U _ (s _ C)) ⟨c,T,I,rfl,by
   show p+cs.length<=c.size;have:=t.len;omega,λi g j=>by
   obtain⟨x,q,X⟩:=t.get j;refine⟨x,?_,X.le u,zA7.1 y x (zA0 q)⟩
   rw[<-a,zAq]at q;by_cases K:i<d.length*e.sz
   ·rw[if_pos K,zAr,zAk]at q;exact q
   ·rw[if_neg K]at q;cases q⟩ I
 refine⟨_,u,O,.sl (by simp[fJ.upd];rfl) D (.inr ⟨rfl,G⟩),λh o l j m L=> ?_⟩
 rw[rW]at j;by_cases z:h=H.n
 ·rw[z]at m;simp[fJ.upd]at m;subst m;exact L.2 C
 ·rw[if_neg z]at j;simp only[fJ.upd,if_neg z]at m;exact A h o l j m L.1
theorem OQ {b:Type} {e:bJ b} {g:b->List GV} (c:∀x,rQ ρ (g x) (e.enc x)):∀a:List b,rQ ρ (a.flatMap g) (cellsOf e a)
 | []=> .nil
 |x::a=>(c x).append (OQ c a)
theorem LP {o:Type} {e:bJ o} {g:o->List GV} (r:∀ρ x,rQ ρ (g x) (e.enc x)):∀(a:List (List o)) (vs:List V0) (G:Nat->Nat->Prop) (B:Nat->Prop) (ρ:fJ) (H:GH),iO w0 ρ H w->Hy ρ H B->(∀k,B k->w0.mine k)->vs.length=a.length->
  (∀xs∈a,xs≠[])->(∀i v xs,vs[i]? = some v->a[i]? = some xs->Br e w (G i) v xs)->(∀i k,G i k->B k)->(∀i j k,G i k->G j k->i=j)->
  ∃c,ρ.le c/\iO w0 c (yE e.sz g a H).2 w/\rQ c (yE e.sz g a H).1 vs/\Hy c (yE e.sz g a H).2 (λk=>B k/\∀i,¬G i k)
 | [],vs,G,B,ρ,H,R,A,hB,hl,_,h1,h2,h3=>by
  have:vs=[]:=zAm hl;subst this;exact⟨ρ,fJ.le_refl _,R,.nil,A.mono λk b=>b.1⟩
 |xs::a,[],G,B,ρ,H,R,A,hB,hl,_,h1,h2,h3=>by simp at hl
 |xs::a,v::vs,G,B,ρ,H,R,A,hB,hl,hne,h1,h2,h3=>by
  obtain⟨p,f,u,F,s⟩:=JG R A hB (h2 0) (h1 0 v xs Z Z) (hne xs (by simp)) (OQ (r ρ) xs);obtain⟨q,d,z,l,t⟩:=LP r a vs (λi=>G (i+1)) _ p _ u s (λk b=>hB k b.1) (by simpa using hl) (λy I=>hne y (by simp[I])) (λi J n h m=>h1 (i+1) J n (by simpa using h) (by simpa using m)) (λi k b=>⟨h2 _ k b,λC=>by have:=h3 _ _ k b C;omega⟩) (λi j k D E=>by have:=h3 _ _ k D E;omega);refine⟨q,fJ.le_trans f d,z,.cons (F.le d) l,t.mono λk b=>⟨⟨b.1,b.2 0⟩,λi=>b.2 (i+1)⟩⟩
theorem NR:∀vs:List V0,cellsOf bJ.raw vs=vs
 | []=>rfl
 |v::vs=>by show v::cellsOf bJ.raw vs=_;rw[NR vs]
end
section
variable {P:Program} {gs:CE} {w0:gN gs} {w:World} {ρ:fJ} {H:GH}
theorem SV {f:Nat} {a:List V0} {L:List bI} {V:V0} {g:GV} (c:bB P f) (d:bE P f a.toArray L (λ_:Unit=>V) (λ_ l=>l) (λ_ l=>l)) (R:iO w0 ρ H w) (b:∀h∈L,h.p w All) (i:∀ρ,Rl ρ g V):oT P w0 ρ f a w g H:=by
 refine .inr ⟨c _ w,(d w All b).mono ?_⟩;rintro e j ⟨_,rfl,t⟩;exact⟨V,ρ,rfl,fJ.le_refl _,R.ext' t.old.ext,i _⟩
theorem SU {V W:Type} {e:bJ V} {g:V->List GV} {q:bJ W} {s:W->List GV} (hg:∀ρ x,rQ ρ (g x) (e.enc x)) (I:∀ρ x,rQ ρ (s x) (q.enc x)) {f:Nat} {S:List V0} {L:List bI} {r:List V×List (List W)} (C:r.1≠[]) (D:r.2≠[]) (h3:∀U∈r.2,U≠[]) (hb:bB P f)
  (hm:bE P f S.toArray L (λx:V0×V0×List V0=>Value.agg #[x.1,x.2.1]) (λx l=>Ar e x.1 r.1::Ar bJ.raw x.2.1 x.2.2::fQ q x.2.2 r.2::l) (λ_ l=>l)) (R:iO w0 ρ H w) (hL:∀h∈L,h.p w All):
  oT P w0 ρ f S w (.agg [.sl H.n 0 r.1.length e.sz,.sl (yE q.sz s r.2 (H.new (.cells (r.1.flatMap g)))).2.n 0 r.2.length 1]) ((yE q.sz s r.2 (H.new (.cells (r.1.flatMap g)))).2.new (.cells (yE q.sz s r.2 (H.new (.cells (r.1.flatMap g)))).1)):=by
 refine .inr ⟨hb _ w,(hm w All hL).mono ?_⟩;rintro en A ⟨x,rfl,t⟩;obtain⟨F,O,_⟩:=t.own;have q0:Br _ A (F 0) x.1 r.1:=O.res 0 _ Z;have q1:Br bJ.raw A (F 1) x.2.1 x.2.2:=O.res 1 _ Z;obtain⟨z,G,q2,Q,q4⟩:(fQ q x.2.2 r.2).p A (F 2):=O.res 2 _ Z;have R':=R.ext' t.old.ext;have E:∀i k,F i k->w.heap.size<=k:=λi k c=>by
  rcases(O.rng i k c).1 with h|h
  ·exact h
  exact h.elim
 obtain⟨X,y,R1,K,A1⟩:=JG (B:=λk=>w.heap.size<=k) R' (λa o l C D=>Hy.start R a o l C D) (λk c=> .inl (zB4 R.ext.size c)) (E 0) q0 C (OQ (hg ρ) r.1);obtain⟨ad,j,R2,M,A2⟩:=LP I r.2 x.2.2 G _ X _ R1 A1 (λk c=> .inl (zB4 R.ext.size c.1)) z h3 q2 (λi k c=>⟨E _ _ (Q i k c),λu=>by have:=O.dis _ _ k (Q i k c) u;omega⟩) q4;have J:x.2.2≠[]:=λu=>by rw[u]at z;exact D (zAm z.symm)
 obtain⟨Y,m,R3,N,_⟩:=JG (cs:=(yE q.sz s r.2 (H.new (.cells (r.1.flatMap g)))).1) (F:=F 1) R2 A2 (λk c=> .inl (zB4 R.ext.size c.1.1)) (λk c=>⟨⟨E _ _ c,λu=>by have:=O.dis _ _ k c u;omega⟩,λi hi=>by have:=O.dis _ _ k c (Q i k hi);omega⟩) q1 J (by rw[NR];exact M);refine⟨_,Y,rfl,fJ.le_trans y (fJ.le_trans j m),R3,?_⟩
 refine Iv (vs:=[x.1,x.2.1]) (.cons ((K.le j).le m) (.cons (by rw[<-z];exact N) .nil)) λv hv=>?_;have d:∀{γ:Type} {e:bJ γ} {F:Nat->Prop} {v:V0} {U:List γ},Br e A F v U->one v=true:=λh=>by
  obtain⟨_,_,h⟩:=h;rcases h with⟨rfl,_⟩|⟨b,ac,aa,T,ab,rfl,_⟩<;>rfl
 simp at hv;rcases hv with rfl|rfl
 ·exact d q0
 exact d q1
end
noncomputable section
def Nv (H:GH) (v:GV):Option (List Int):=SI H 1 (dI .i64) v
def XF (H:GH) (v:GV):Option (List (List (Int×Int))):=SI H 1 (dS H 2 (dP 1 (dI .i64) (dI .i64))) v
def XE (H:GH) (v:GV):Option (List Int×List (List (Int×Int))):=ob v.asA λc=>List.casesOn (motive:=λ_=>Option (List Int×List (List (Int×Int)))) c none λa r=>List.casesOn (motive:=λ_=>Option (List Int×List (List (Int×Int)))) r none λb r=>List.casesOn (motive:=λ_=>Option (List Int×List (List (Int×Int)))) r (ob (Nv H a) λx=>ob (XF H b) λy=>some (x,y)) λ_ _=>none
end
section
variable {P:Program} {gs:CE} {w0:gN gs} {w:World} {ρ:fJ} {H:GH}
theorem IC (R:iO w0 ρ H w) {v:GV} {V:V0} {a:List Int} (b:Rl ρ v V) (h:Nv H v=some a):(Sl (eK.int .i64) V a).p w All:=by
 obtain⟨d,rfl,c⟩:=ID R (λ_ _=>trivial) (kD.int .i64) b h;rw[List.map_id];exact c
theorem VB (R:iO w0 ρ H w) {v:GV} {V:V0} {b:List (List (Int×Int))} (c:Rl ρ v V) (h:XF H v=some b):∃a,(S2 (eK.pair (eK.int .i64) (eK.int .i64)) V a b).p w All:=by
 obtain⟨a,rfl,d⟩:=ID R (λ_ _=>trivial) (kD.sl R (λ_ _=>trivial) (kD.pair (kD.int .i64) (kD.int .i64))) c h;exact⟨a,d,by simp⟩
theorem VA (R:iO w0 ρ H w) {v:GV} {V:V0} {p:List Int×List (List (Int×Int))} (j:Rl ρ v V) (h:XE H v=some p):∃e f i,V = .agg #[e,f]/\(Sl (eK.int .i64) e p.1).p w All/\(S2 (eK.pair (eK.int .i64) (eK.int .i64)) f i p.2).p w All:=by
 obtain⟨c,g,h⟩:=aF.1 (show ob v.asA _=some p from h);rw[Lz g]at j;obtain⟨k,rfl,d,_⟩:=j.agg_inv;cases c with
 |nil=>cases h
 |cons a c=>
 cases c with
 |nil=>cases h
 |cons b c=>
 cases c with
 |cons _ _=>cases h
 |nil=>
 obtain⟨x,n,h⟩:=aF.1 (show ob (Nv H a) _=some p from h);obtain⟨y,o,h⟩:=aF.1 h;cases h;obtain⟨e,k,rfl,l,d⟩:=d.of_cons;obtain⟨f,k,rfl,m,d⟩:=d.of_cons;rw[d.of_nil];obtain⟨i,q⟩:=VB R m o;exact⟨e,f,i,rfl,IC R l n,q⟩
end
noncomputable section
section
variable {α R:Type}
def a0 (a:List α) (k:Option R):Option R:=List.casesOn (motive:=λ_=>Option R) a k (λ_ _=>none)
def a1 (b:List α) (k:α->Option R):Option R:=List.casesOn (motive:=λ_=>Option R) b none λa r=>a0 r (k a)
def a2 (b:List α) (k:α->α->Option R):Option R:=List.casesOn (motive:=λ_=>Option R) b none λa r=>a1 r (k a)
def a3 (b:List α) (k:α->α->α->Option R):Option R:=List.casesOn (motive:=λ_=>Option R) b none λa r=>a2 r (k a)
def a4 (b:List α) (k:α->α->α->α->Option R):Option R:=List.casesOn (motive:=λ_=>Option R) b none λa r=>a3 r (k a)
def a5 (us:List α) (k:α->α->α->α->α->Option R):Option R:=List.casesOn (motive:=λ_=>Option R) us none λa r=>a4 r (k a)
def a6 (b:List α) (k:α->α->α->α->α->α->Option R):Option R:=List.casesOn (motive:=λ_=>Option R) b none λa r=>a5 r (k a)
theorem ZM {a:List α} {k:Option R} {r:R} (h:a0 a k=some r):a=[]/\k=some r:=by
 cases a with
 |nil=>exact⟨rfl,h⟩
 |cons _ _=>cases h
theorem TM {a:List α} {k:α->Option R} {r:R} (h:a1 a k=some r):∃x,a=[x]/\k x=some r:=by
 cases a with
 |nil=>cases h
 |cons x a=>obtain⟨rfl,h⟩:=ZM h;exact⟨x,rfl,h⟩
theorem TN {a:List α} {k:α->α->Option R} {r:R} (h:a2 a k=some r):∃x y,a=[x,y]/\k x y=some r:=by
 cases a with
 |nil=>cases h
 |cons x a=>obtain⟨y,rfl,h⟩:=TM h;exact⟨x,y,rfl,h⟩
theorem ZN {a:List α} {k:α->α->α->Option R} {r:R} (h:a3 a k=some r):∃x y z,a=[x,y,z]/\k x y z=some r:=by
 cases a with
 |nil=>cases h
 |cons x a=>obtain⟨y,z,rfl,h⟩:=TN h;exact⟨x,y,z,rfl,h⟩
theorem ZO {a:List α} {k:α->α->α->α->Option R} {r:R} (h:a4 a k=some r):∃x y z u,a=[x,y,z,u]/\k x y z u=some r:=by
 cases a with
 |nil=>cases h
 |cons x a=>obtain⟨y,z,u,rfl,h⟩:=ZN h;exact⟨x,y,z,u,rfl,h⟩
theorem ZP {a:List α} {k:α->α->α->α->α->Option R} {r:R} (h:a5 a k=some r):∃x y z u v,a=[x,y,z,u,v]/\k x y z u v=some r:=by
 cases a with
 |nil=>cases h
 |cons x a=>obtain⟨y,z,u,v,rfl,h⟩:=ZO h;exact⟨x,y,z,u,v,rfl,h⟩
theorem ZQ {a:List α} {k:α->α->α->α->α->α->Option R} {r:R} (h:a6 a k=some r):∃x y z u v w,a=[x,y,z,u,v,w]/\k x y z u v w=some r:=by
 cases a with
 |nil=>cases h
 |cons x a=>obtain⟨y,z,u,v,w,rfl,h⟩:=ZP h;exact⟨x,y,z,u,v,w,rfl,h⟩
end
def dSc (k:IntKind) (v:GV):Option Int:=ob v.asI λp=>bif eqK p.1 k then some p.2 else none
def aeQ (H:GH) (v:GV):Option (Int×List Int×List Int×List Int×Bool×Bool):=ob v.asA λg=>a6 g λa b c d e f=>ob (dSc .i64 a) λn=>ob (Nv H b) λx=>ob (Nv H c) λy=>ob (Nv H d) λz=>ob e.asB λp=>ob f.asB λq=>some (n,x,y,z,p,q)
def gI (n:Int):List GV:=[.int .i64 n]
def gP (p:Int×Int):List GV:=[.int .i64 p.1,.int .i64 p.2]
def fcI {R:Type} (l:List Int):(List Int->R)->R:=List.rec (motive:=λ_=>(List Int->R)->R) (λk=>k []) (λx _ a k=>fi x λx=>a λr=>k (x::r)) l
def fcP {R:Type} (l:List (Int×Int)):(List (Int×Int)->R)->R:=List.rec (motive:=λ_=>(List (Int×Int)->R)->R) (λk=>k []) (λx _ c k=>fi x.1 λa=>fi x.2 λb=>c λr=>k ((a,b)::r)) l
def fcR {R:Type} (l:List (List (Int×Int))):(List (List (Int×Int))->R)->R:=List.rec (motive:=λ_=>(List (List (Int×Int))->R)->R) (λk=>k []) (λx _ a k=>fcP x λx=>a λr=>k (x::r)) l
theorem XQ {R:Type}:∀(l:List Int) (k:List Int->R),fcI l k=k l
 | [],k=>rfl
 |x::l,k=>by
  show fi x (λx=>fcI l λr=>k (x::r))=_;rw[NA,XQ l]
theorem XR {R:Type}:∀(l:List (Int×Int)) (k:List (Int×Int)->R),fcP l k=k l
 | [],k=>rfl
 |x::l,k=>by
  show fi x.1 (λa=>fi x.2 λb=>fcP l λr=>k ((a,b)::r))=_;rw[NA,NA,XR l]
theorem XS {R:Type}:∀(l:List (List (Int×Int))) (k:List (List (Int×Int))->R),fcR l k=k l
 | [],k=>rfl
 |x::l,k=>by
  show fcP x (λx=>fcR l λr=>k (x::r))=_;rw[XR,XS l]
def ace (b:Bool) (H:GH):OR:=Bool.casesOn (motive:=λ_=>OR) b (some (.bool false,H)) (some (.bool true,H))
def Tg (r:List Int×List (List (Int×Int))) (H:GH):OR:=fcI r.1 λx=>fcR r.2 λy=>bif Nat.beq x.length 0 then none else bif Nat.beq y.length 0 then none else bif y.any λl=>Nat.beq l.length 0 then none else
 fc (x.flatMap gI) λl=>H.newK (.cells l) λh a=>fc (yE 2 gP y a).1 λd=>sn x.length λn=>sn y.length λm=>(yE 2 gP y a).2.newK (.cells d) λc b=>some (.agg [.sl h 0 n 1,.sl c 0 m 1],b)
end
section
variable {P:Program} {gs:CE} {w0:gN gs} {w:World} {ρ:fJ} {H H':GH} {g:GV}
theorem rQ.one {x:GV} {vs:List V0} (h:rQ ρ [x] vs):∃V,vs=[V]/\Rl ρ x V:=by
 obtain⟨v,vs,rfl,a,b⟩:=h.of_cons;rw[b.of_nil];exact⟨v,rfl,a⟩
theorem XG {k:IntKind} {v:GV} {V:V0} {n:Int} (a:Rl ρ v V) (h:dSc k v=some n):V = .int k n:=by
 obtain⟨p,c,h⟩:=aF.1 (show ob v.asI _=some n from h);obtain⟨b,h⟩:=cA.1 h;cases h;rw[nJ c]at a;rw[a.int_inv,JC b]
theorem Xc {v:GV} {V:V0} {b:Bool} (a:Rl ρ v V) (h:v.asB=some b):V = .bool b:=by
 rw[Ej h]at a;exact a.bool_inv
theorem aaO (R:iO w0 ρ H w) {v:GV} {V:V0} {p:Int×List Int×List Int×List Int×Bool×Bool} (l:Rl ρ v V) (h:aeQ H v=some p):
  ∃m o s,V = .agg #[.int .i64 p.1,m,o,s,.bool p.2.2.2.2.1,.bool p.2.2.2.2.2]/\(Sl (eK.int .i64) m p.2.1).p w All/\(Sl (eK.int .i64) o p.2.2.1).p w All/\(Sl (eK.int .i64) s p.2.2.2.1).p w All:=by
 obtain⟨T,k,h⟩:=aF.1 (show ob v.asA _=some p from h);obtain⟨a,b,c,d,e,f,rfl,h⟩:=ZQ h;obtain⟨n,I,h⟩:=aF.1 h;obtain⟨x,L,h⟩:=aF.1 h;obtain⟨y,M,h⟩:=aF.1 h;obtain⟨z,N,h⟩:=aF.1 h;obtain⟨q,J,h⟩:=aF.1 h;obtain⟨r,K,h⟩:=aF.1 h;cases h;rw[Lz k]at l;obtain⟨j,rfl,i,_⟩:=l.agg_inv;obtain⟨U,j,rfl,B,i⟩:=i.of_cons;obtain⟨O,j,rfl,C,i⟩:=i.of_cons;obtain⟨Q,j,rfl,D,i⟩:=i.of_cons;obtain⟨S,j,rfl,E,i⟩:=i.of_cons;obtain⟨W,j,rfl,F,i⟩:=i.of_cons;obtain⟨X,rfl,G⟩:=i.one;have t:=XG B I;have u:=Xc F J;have A:=Xc G K;subst t u A;exact⟨O,Q,S,rfl,IC R C L,IC R D M,IC R E N⟩
theorem Tf {b:Bool} (h:ace b H=some (g,H')):g = .bool b/\H'=H:=by
 cases b<;>cases h<;>exact⟨rfl,rfl⟩
theorem QT {r:List Int×List (List (Int×Int))} (h:Tg r H=some (g,H')):r.1≠[]/\r.2≠[]/\(∀a∈r.2,a≠[])/\
  g = .agg [.sl H.n 0 r.1.length 1,.sl (yE 2 gP r.2 (H.new (.cells (r.1.flatMap gI)))).2.n 0 r.2.length 1]/\H'=(yE 2 gP r.2 (H.new (.cells (r.1.flatMap gI)))).2.new (.cells (yE 2 gP r.2 (H.new (.cells (r.1.flatMap gI)))).1):=by
 unfold Tg at h;rw[XQ,XS]at h;obtain⟨b,h⟩:=lO.1 h;obtain⟨c,h⟩:=lO.1 h;obtain⟨d,h⟩:=lO.1 h;rw[QC,jV,QC,zG,zG,jV]at h;cases h;refine⟨λe=>(by rw[e]at b;cases b),λe=>(by rw[e]at c;cases c),λa f e=>?_,rfl,rfl⟩
 have:=List.any_eq_false.1 d a f;rw[e]at this;exact this Z
theorem aeV (ρ:fJ) (x:Int):rQ ρ (gI x) [.int .i64 x]:= .cons (.int _ _) .nil
theorem aeW (ρ:fJ) (x:Int×Int):rQ ρ (gP x) [.int .i64 x.1,.int .i64 x.2]:= .cons (.int _ _) (.cons (.int _ _) .nil)
theorem X_ (w:World) (S:Nat->Prop) (_:∀h∈([]:List bI),h.p w S):∃_:Nat,Kb noG w λ_=>False:=⟨0,λ_ h=>absurd h List.not_mem_nil⟩
theorem Pe {gs:Nat->CE} {f:Nat} {V:V0} {L:List bI} (q:∀w S,(∀h∈L,h.p w S)->∃T,Kb (gs T) w λ_=>False) (r:bB P f) (y:∀ρ d,Rl ρ g d->d=V) (h:∀T (b:gN (gs T)),oT P b (λ_=>none) f [] b.w g H'):bE P f #[] L (λ_:Unit=>V) (λ_ l=>l) (λ_ l=>l):=by
 intro w0 o z;obtain⟨T,n⟩:=q w0 o z;rcases h T (.of w0 n)with⟨v,A,c,a,_⟩|⟨_,s⟩
 ·have x:=r #[] w0;rw[show([]:List V0).toArray = #[]from rfl]at a;rw[show(gN.of w0 n).w=w0 from rfl,x]at a;cases a
 refine s.mono ?_;rintro e A ⟨v,c,rfl,_,R,a⟩;exact⟨(),by rw[y _ _ a],R.ext,λ_ _=>False,⟨λi m u=>by simp at u,λi k h=>h.elim,λi j k h=>h.elim⟩,λf t=>by simp at t⟩
section
variable {tb:TB} {T:TypeId}
theorem TP (h:EB tb T=some [A_]) (H:GH):vR tb T H=some (.ptr H.n 0,H.new (.cells [A_])):=by
 unfold vR;rw[h];show H.newK (.cells [A_]) (λh H'=>some (GV.ptr h 0,H'))=_;rw[jV]
theorem UM {t:Ty} (h:tb T=some t) (e:t.size=1) (H:GH) (k:Nat) (c:GV) (d:GH.cells H k=some [c]):sM tb T (.ptr k 0) A_ H=some (.un,H.set k (.cells [A_])):=by
 show ob (H.cells k) (λb=>ob (tb T) λt=>bif Nat.beq 1 t.size then bif Nat.beq t.size 0 then none else ob (IJ [A_] 0 b) λa=>H.setK k (.cells a) λH'=>some (GV.un,H')else none)=_;rw[d,h];show(bif Nat.beq 1 t.size then bif Nat.beq t.size 0 then none else ob (IJ [A_] 0 [c]) λa=>H.setK k (.cells a) λH'=>some (GV.un,H')else none)=_;rw[e];show H.setK k (.cells [A_]) (λH'=>some (GV.un,H'))=_;rw[Bt]
theorem Yn {t:Ty} (h:tb T=some t) (b:BB t.desc=false) (H:GH) (k:Nat) (c:GH.cells H k=some [A_]):Bq tb T (.ptr k 0) H=some A_:=by
 show ob (H.cells k) (λa=>ob (tb T) λt=>Ee t a 0)=_;rw[c,h];show Ee t [A_] 0=_;unfold Ee;rw[b];rfl
end
def ON (a:Func):List Oper:=match a.body with
 |some (.seq (.region _ ops _) _)=>ops.toList
 |_=>[]
def Xu (a:Func):Code:=match a.body with
 |some (.seq _ c)=>c
 |_=> .skip
def aaL (a:Func):Nat:=match ON a with
 |o::_=>o.dst.getD 0
 | []=>0
def okN (r:RS):Bool:=match r with
 |some o=>match o.e with
  | .normal=>true
  |_=>false
 |none=>false
theorem Yy {r:RS} (h:okN r=true):∃a,r=some a/\a.e = .normal:=by
 unfold okN at h;cases r with
 |none=>cases h
 |some o=>
  refine⟨o,rfl,?_⟩
  cases b:o.e<;>simp only[b]at h<;>first|rfl|cases h
def okT (r:OR):Bool:=match r with
 |some (.bool true,_)=>true
 |_=>false
theorem Yz {r:OR} (h:okT r=true):∃H',r=some (.bool true,H'):=by
 unfold okT at h;split at h
 ·exact⟨_,rfl⟩
 ·cases h
end
end Go.Gx
namespace Go.Proofs.YtflciafboapaaaaGreat
open Go.Sx
def oZ (a:Unit):Option Bool:=
 some (true)
def kB (d:bT) (a:Int×List (Bool)) (c:(Int×List (Bool))->Option Bool) (b:Bool):Option Bool:=
 if b=true then(some (false))else(ck ((0<=(at' d a.1)/\(at' d a.1)<((256:Nat):Int))/\a.2.length=256) (c ((wI .i64 (a.1+(1:Int))),(List.set a.2 (Int.toNat (at' d a.1)) true))))
def iZ (b:bT) (a:Int×List (Bool)) (c:(Int×List (Bool))->Option Bool):Option Bool:=
 if a.1<(b.length:Int)then(ck (0<=a.1/\a.1<(b.length:Int)) (if(at' b a.1)<(0:Int)then(kB b a c (true))else(if(255:Int)<(at' b a.1)then(kB b a c (true))else(ck ((0<=(at' b a.1)/\(at' b a.1)<((256:Nat):Int))/\a.2.length=256) (kB b a c ((at' a.2 (at' b a.1))))))))else(oZ (()))
def kV (U:Nat) (a:bT):Option Bool:=
 bL (iZ a) U ((0:Int),(List.replicate 256 false))
theorem aac:bB Tryz.prog 115:=Tryz.call115
theorem GJ (U:Nat) {d:bT} (n:V0) (r:Bool) (h:kV U d=some r):
  bE Tryz.prog 115 #[n] [Sl aM n d] (λx:Unit=>vB (r)) (λx l=>l) (λ_ l=>l):=by
 refine bE.of Tryz.func115 Z Tryz.ntmps115 Z λc=>?_;unfold kV at h;refine aU<|aC Z<|aP<|aU ?_;refine aJ (aQ.alloc (cs:=cellsOf EBo (List.replicate 256 false)) Z (by kernel_rfl)) Z λm=>?_;refine aP<|aN<|eB (λk=>oZ k=some r) (λk o=>[]) (λk o=>[]) ?_ ?_
 ·refine aU<|aA Z<|iL (b_ Z) Z<|aA Z<|aP<|aT<|eW (iZ d) (λa p=>[(3,vP m),(6,n),(7,vI (d.length:Int)),(8,vI (a.1))]) (λa p=>[bM m (cellsOf EBo a.2) 202]) ((0:Int),(List.replicate 256 false)) () h SF (a_.refl _) ?_;intro q a p h;refine aU<|cU Z<|aP<|aN ?_;refine eG h Z (λh=>?_) λh=>?_
  ·refine cL<|aN<|aT<|aU<|cQ h λg h=>aB (bG Z Z (b_ Z) Z Z g) Z<|aB (cI Z (b_ Z) Z Z Z eZ g) Z<|aC Z<|aP<|aN<|aN<|eB (λb=>kB d a (bL (iZ d) q) b=some r) (λb f=>[(3,vP m),(5,vI (at' d a.1)),(6,n),(7,vI (d.length:Int)),(8,vI (a.1)),(22,vB (b))]) (λb f=>[bM m (cellsOf EBo a.2) 202]) ?_ ?_
   ·refine aR<|aA Z<|cU Z<|aA Z ?_;refine Ds h Z (λ_ h=>?_) λ_ h=>?_
    ·refine aO Z<|aO Z<|d_ Z<|aA Z<|aO Z<|aO Z<|aO Z<|d_ Z<|aP ?_;exact f_ (true) () h SF Z
    refine dD Z<|aW Z (wY Z Z) Z<|eR Z<|aA Z ?_;refine Ds h Z (λ_ h=>?_) λ_ h=>?_
    ·refine aO Z<|aO Z<|aO Z<|d_ Z<|aP ?_;exact f_ (true) () h SF Z
    refine dD Z<|cQ h λj h=>aW Z (pU Z Z Z Z Z j.1) Z<|aW Z (Vn (e:=EBo) Z (aI.res 0 Z) Z Z Z Z j) Z<|eR Z<|aP ?_;exact f_ ((at' a.2 (at' d a.1))) () h SF Z
   intro b f h;refine rR h Z (λ_ h=>?_) λ_ h=>?_
   ·refine aU<|aC Z<|aP<|aS<|aG<|bF<|aG<|aG<|bF<|aG ?_;cases h;exact mO Z
   refine cL<|aR<|aA Z<|cQ h λi h=>aB (pU Z Z Z Z Z i.1) Z<|Ln 0 (e:=EBo) true i Z Z Z Z Z Z Z<|eS<|lA<|aR<|cN Z<|aA Z<|aP ?_;exact xD ((wI .i64 (a.1+(1:Int))),(List.set a.2 (Int.toNat (at' d a.1)) true)) () h SF Z
  refine eP ?_;exact cB () (()) h SF .nil (aH.refl _ _)
 intro k o h;unfold oZ at h;refine aU<|aC Z<|aP<|aS ?_;cases h;exact iR Z
def yS (c:(List ((Int×Int)×Int))) (a:(Int×Int)×Int) (b:Option Bool):Option Bool:=
 if(Option.getD (nW (a.1.2,a.1.1) c) (0:Int))≠a.2 then(some (false))else(b)
def kN (a:(List ((Int×Int)×Int))):Option Bool:=
 MV (yS a) (some (true)) a
def oC (b:Kw) (a:NZ->Option Bool) (c:(List ((Int×Int)×Int))):Option Bool:=
 a ((wI .i64 (b.1+(1:Int))),c)
def kO (e:iI) (b a:Kw) (c:NZ->Option Bool) (d:Bool):Option Bool:=
 if d=true then(some (false))else(if(Option.isSome (nW (b.1,((at' (at' e b.1) a.1).1)) a.2))=true then(some (false))else(c ((wI .i64 (a.1+(1:Int))),(FC (b.1,((at' (at' e b.1) a.1).1)) ((at' (at' e b.1) a.1).2) a.2))))
def jJ (d:iI) (a b:Kw) (c:NZ->Option Bool) (e:Bool):Option Bool:=
 if e=true then(some (false))else(if((at' (at' d a.1) b.1).2)<(1:Int)then(kO d a b c (true))else(kO d a b c (decide ((15:Int)<((at' (at' d a.1) b.1).2)))))
def dU (d:iI) (a:Kw) (e:NZ->Option Bool) (b:Kw) (c:NZ->Option Bool):Option Bool:=
 if b.1<((at' d a.1).length:Int)then(ck (0<=b.1/\b.1<((at' d a.1).length:Int)) (if((at' (at' d a.1) b.1).1)<(0:Int)then(jJ d a b c (true))else(if(d.length:Int)<=((at' (at' d a.1) b.1).1)then(jJ d a b c (true))else(jJ d a b c (decide (((at' (at' d a.1) b.1).1)=a.1))))))else(oC a e (b.2))
def eM (U:Nat) (c:iI) (a:Kw) (b:NZ->Option Bool):Option Bool:=
 if a.1<(c.length:Int)then(ck (0<=a.1/\a.1<(c.length:Int)) (bL (dU c a b) U ((0:Int),a.2)))else(kN (a.2))
def jB (U:Nat) (a:iI):Option Bool:=
 bL (eM U a) U ((0:Int),([]:List ((Int×Int)×Int)))
theorem aad:bB Tryz.prog 116:=Tryz.call116
theorem Jg (U:Nat) {f:iI} (n:V0) (F:kX) (r:Bool) (h:jB U f=some r):
  bE Tryz.prog 116 #[n] [S2 aY n F f] (λx:Unit=>vB (r)) (λx l=>l) (λ_ l=>l):=by
 refine bE.of Tryz.func116 Z Tryz.ntmps116 Z λc=>?_;unfold jB at h;refine aU<|aC Z<|aP<|aU<|aJ (aQ.makeMap oS RE) Z λk=>aC Z<|aP<|aN<|eB (λq=>kN q=some r) (λq H=>[(3,Value.map (some k))]) (λq H=>[Mp oS RE k q]) ?_ ?_
 ·refine aU<|aA Z<|aB (dM Z (b_ Z) Z) Z<|aA Z<|aP<|aT<|eW (eM U f) (λd y=>[(0,n),(3,Value.map (some k)),(14,n),(15,vI (f.length:Int)),(16,vI (d.1))]) (λd y=>[Mp oS RE k d.2]) ((0:Int),([]:List ((Int×Int)×Int))) () h SF (a_.refl _) ?_;intro t d y h;refine aU<|cU Z<|aP<|aN ?_;refine eG h Z (λh=>?_) λh=>?_
  ·refine cL<|aN<|eB (λm=>oC d (bL (eM U f) t) m=some r) (λm z=>[(0,n),(3,Value.map (some k)),(14,n),(15,vI (f.length:Int)),(16,vI (d.1))]) (λm z=>[Mp oS RE k m]) ?_ ?_
   ·refine aT<|aU<|aA Z<|cQ h λj h=>aB (bK Z Z (b_ Z) Z Z j) Z<|aB (bS Z (b_ Z) Z Z j) Z<|aC Z<|aC Z<|aP<|aU<|aA Z<|aB (fH Z (zBc (b_ Z) j.1 j.2) Z) Z<|aA Z<|aP<|aT<|eW (dU f d (bL (eM U f) t)) (λe A=>[(0,n),(3,Value.map (some k)),(4,vI (d.1)),(14,n),(15,vI (f.length:Int)),(16,vI (d.1)),(21,(at' F d.1).1),(22,vI ((at' f d.1).length:Int)),(23,vI (e.1))]) (λe A=>[Mp oS RE k e.2]) ((0:Int),d.2) () h SF (a_.refl _) ?_;intro E e A h;refine aU<|cU Z<|aP<|aN ?_;refine eG h Z (λh=>?_) λh=>?_
    ·refine cL<|aN<|aT<|aU<|cQ h λD h=>aB (bG Z Z (zBc (b_ Z) j.1 j.2) Z Z D) Z<|aB (gS (cs:=[vI ((at' (at' f d.1) e.1).1),vI ((at' (at' f d.1) e.1).2)]) Z (zBc (b_ Z) j.1 j.2) cR Z Z Z Z D) Z<|aJ (aQ.alloc (cs:=TF) Z Z) Z λs=>cD 0 (vs:=[vI ((at' (at' f d.1) e.1).1),vI ((at' (at' f d.1) e.1).2)]) Z Z Z Z Z Z<|aP<|aN<|aN<|eB (λo=>jJ f d e (bL (dU f d (bL (eM U f) t)) E) o=some r) (λo B=>[(0,n),(3,Value.map (some k)),(4,vI (d.1)),(7,vP s),(14,n),(15,vI (f.length:Int)),(16,vI (d.1)),(21,(at' F d.1).1),(22,vI ((at' f d.1).length:Int)),(23,vI (e.1)),(42,vB (o))]) (λo B=>[bM s [vI ((at' (at' f d.1) e.1).1),vI ((at' (at' f d.1) e.1).2)] 80,Mp oS RE k e.2]) ?_ ?_
     ·refine aR<|bV Z<|dK 0 Z<|cU Z<|aA Z ?_;refine Ds h Z (λ_ h=>?_) λ_ h=>?_
      ·refine aO Z<|aO Z<|aO Z<|aO Z<|aO Z<|d_ Z<|aA Z<|aO Z<|aO Z<|aO Z<|aO Z<|d_ Z<|aP ?_;exact f_ (true) () h SF Z
      refine aW Z (cT Z Z Z Z Z) Z<|aW Z (dL 0 Z Z Z Z Z) Z<|dD Z<|aW Z (dM Z (b_ Z) Z) Z<|aW Z (uI Z Z) Z<|eR Z<|aA Z ?_;refine Ds h Z (λ_ h=>?_) λ_ h=>?_
      ·refine aO Z<|aO Z<|aO Z<|aO Z<|d_ Z<|aP ?_;exact f_ (true) () h SF Z
      refine aW Z (cT Z Z Z Z Z) Z<|aW Z (dL 0 Z Z Z Z Z) Z<|dD Z<|aW Z (Lu Z Z) Z<|eR Z<|aP ?_;exact f_ (decide (((at' (at' f d.1) e.1).1)=d.1)) () h SF Z
     intro o B h;refine rR h Z (λ_ h=>?_) λ_ h=>?_
     ·refine aU<|aC Z<|aP<|aS<|aG<|bF<|aG<|aG<|bF<|bF<|aG<|aG<|bF<|aG ?_;cases h;exact mO Z
     refine cL<|aN<|aN<|eB (λp=>kO f d e (bL (dU f d (bL (eM U f) t)) E) p=some r) (λp C=>[(0,n),(3,Value.map (some k)),(4,vI (d.1)),(7,vP s),(14,n),(15,vI (f.length:Int)),(16,vI (d.1)),(21,(at' F d.1).1),(22,vI ((at' f d.1).length:Int)),(23,vI (e.1)),(50,vB (p))]) (λp C=>[bM s [vI ((at' (at' f d.1) e.1).1),vI ((at' (at' f d.1) e.1).2)] 80,Mp oS RE k e.2]) ?_ ?_
     ·refine aR<|bV Z<|dK 0 Z<|cU Z<|aA Z ?_;refine Ds h Z (λ_ h=>?_) λ_ h=>?_
      ·refine aO Z<|aO Z<|aO Z<|d_ Z<|aP ?_;exact f_ (true) () h SF Z
      refine aW Z (cT Z Z Z Z Z) Z<|aW Z (dL 0 Z Z Z Z Z) Z<|aW Z (wY Z Z) Z<|eR Z<|aP ?_;exact f_ (decide ((15:Int)<((at' (at' f d.1) e.1).2))) () h SF Z
     intro p C h;refine rR h Z (λ_ h=>?_) λ_ h=>?_
     ·refine aU<|aC Z<|aP<|aS<|aG<|bF<|aG<|aG<|bF<|bF<|aG<|aG<|bF<|aG ?_;cases h;exact mO Z
     refine cL<|aU<|aA Z<|bV Z<|dK 0 Z ?_;refine aB (Gi (r:=Value.agg #[vI (d.1),vI ((at' (at' f d.1) e.1).1)]) Z Z (by intro w;simp[Instr.build,Instr.fill,gT,fN,e_,gU,gV,fO,iS])) Z ?_;refine aJ (aQ.alloc (cs:=TF) Z Z) Z λK=>cD 0 (vs:=[vI (d.1),vI ((at' (at' f d.1) e.1).1)]) Z Z Z Z Z Z<|aP<|aN<|aU<|aA Z<|cM 0 Z ?_;refine aB (Qr 2 ((d.1,((at' (at' f d.1) e.1).1))) (u:=vI (Option.getD (nW (d.1,((at' (at' f d.1) e.1).1)) e.2) (0:Int))) O_ Z Z Z Z Z (by cases nW ((d.1,((at' (at' f d.1) e.1).1))) e.2<;>rfl)) Z ?_;refine aA Z<|iN Z<|iN Z<|aC Z<|aC Z<|aP<|aU<|aA Z<|aP ?_;refine rR h Z (λ_ h=>?_) λ_ h=>?_
     ·refine aU<|aC Z<|aP<|aS<|aG<|bF<|aG<|aG<|bF<|bF<|aG<|aG<|bF<|aG ?_;cases h;exact mO Z
     refine cL<|aR<|aA Z<|cM 0 Z<|bV Z<|dK 1 Z<|Qb 2 ((d.1,((at' (at' f d.1) e.1).1))) ((at' (at' f d.1) e.1).2) O_ Z Z Z Z Z<|eS<|lA<|aR<|cN Z<|aA Z<|aP ?_;exact iP ((wI .i64 (e.1+(1:Int))),(FC (d.1,((at' (at' f d.1) e.1).1)) ((at' (at' f d.1) e.1).2) e.2)) () h SF (a_.ix [2] Z Z) (aH.refl _ _)
    refine uE<|g_<|g_<|Cr<|lA ?_;exact f_ (e.2) () h SF Z
   intro m z h;unfold oC at h;refine aR<|cN Z<|aA Z<|aP ?_;exact xD ((wI .i64 (d.1+(1:Int))),m) () h SF Z
  refine eP ?_;exact f_ (d.2) () h SF Z
 intro q H h;unfold kN at h;refine aN<|aU<|aA Z<|aJ (aQ.range 0 Z Z Z) Z λI=>aP<|aT<|ZH [(3,Value.map (some k)),(69,vP I)] [It I k (q.length) ([]),Mp oS RE k q] [S2 aY n F f] SF (a_.refl _) (aH.refl _ _) ?_;refine Vh (yS q) 1 0 (by intro a b x;unfold yS;repeat' split;all_goals first|rfl|contradiction|simp_all) h Z Z Z Z Z Z ?_ ?_
 ·skip
  intro g N G M v h;refine aT<|aU<|aJ (aQ.entry 1 0 v Z Z Z) Z λL=>iN Z<|iN Z<|aJ (aQ.alloc (cs:=TF) Z Z) Z λJ=>cD 0 (vs:=[vI (g.1.1),vI (g.1.2)]) Z Z Z Z Z Z<|aC Z<|aP<|aU<|aA Z ?_;refine aB (pU (i:=1) Z Z Z Z Z (by decide)) Z ?_;refine dK 0 Z ?_;refine aB (pU (i:=0) Z Z Z Z Z (by decide)) Z ?_;refine dK 0 Z ?_;refine aB (Gi (r:=Value.agg #[vI (g.1.2),vI (g.1.1)]) Z Z (by intro w;simp[Instr.build,Instr.fill,gT,fN,e_,gU,gV,fO,iS])) Z ?_;refine aB (Qr 2 ((g.1.2,g.1.1)) (u:=vI (Option.getD (nW (g.1.2,g.1.1) q) (0:Int))) O_ Z Z Z Z Z (by cases nW ((g.1.2,g.1.1)) q<;>rfl)) Z ?_;refine aA Z<|lB Z<|aP ?_;refine eG h Z (λh=>?_) λh=>?_
  ·refine aU<|aC Z<|aP<|aS<|bF<|aG<|bF<|aG ?_;cases h;exact mO Z
  refine dW<|lA ?_;exact Se h SF (a_.ix [1,2] Z Z) (aH.refl _ _)
 intro G h;refine Cr<|Fc<|aU<|aC Z<|aP<|aS ?_;cases h;exact mO Z
def qU (a:Bool):Option Bool:=
 some (a)
def qT (U:Nat) (b:cJ) (c:Bool):Option Bool:=
 if c=true then(some (false))else(Option.bind (kV U b.1) λd=>(if d=true then(Option.bind (jB U b.2) λa=>(qU (a)))else(qU (false))))
def lD (U:Nat) (a:cJ):Option Bool:=
 if(a.1.length:Int)<(1:Int)then(qT U a (true))else(if(24:Int)<(a.1.length:Int)then(qT U a (true))else(qT U a (decide ((a.2.length:Int)≠(a.1.length:Int)))))
theorem Xq:bB Tryz.prog 72:=Tryz.call72
theorem HL (U:Nat) {p0:cJ} (f g:V0) (o:kX) (r:Bool) (h:lD U p0=some r):
  bE Tryz.prog 72 #[Value.agg #[f,g]] [Sl aM f p0.1,S2 aY g o p0.2] (λx:Unit=>vB (r)) (λx l=>l) (λ_ l=>l):=by
 refine bE.of Tryz.func72 Z Tryz.ntmps72 Z λc=>?_;refine aU<|aJ (aQ.box (cs:=[f,g]) Z Z) Z λk=>aC Z<|aP<|aU<|bV Z<|dK 0 Z<|iL (b_ Z) Z<|aC Z<|aP<|aN<|aN<|eB (λb=>qT U p0 b=some r) (λb m=>[(1,vP k),(19,vB (b))]) (λb m=>[bM k [f,g] 31]) ?_ ?_
 ·refine aR<|aA Z<|cU Z<|aA Z ?_;refine Ds h Z (λ_ h=>?_) λ_ h=>?_
  ·refine aO Z<|aO Z<|d_ Z<|aA Z<|aO Z<|aO Z<|aO Z<|aO Z<|aO Z<|d_ Z<|aP ?_;exact f_ (true) () h SF Z
  refine dD Z<|aW Z (wY Z Z) Z<|eR Z<|aA Z ?_;refine Ds h Z (λ_ h=>?_) λ_ h=>?_
  ·refine aO Z<|aO Z<|aO Z<|aO Z<|aO Z<|d_ Z<|aP ?_;exact f_ (true) () h SF Z
  refine aW Z (cT Z Z Z Z Z) Z<|aW Z (dL 0 Z Z Z Z Z) Z<|aW Z (dM Z (mR Z) Z) Z<|dD Z<|aW Z (Bg Z Z) Z<|eR Z<|aP ?_;exact f_ (decide ((p0.2.length:Int)≠(p0.1.length:Int))) () h SF Z
 intro b m h;refine rR h Z (λ_ h=>?_) λ_ h=>?_
 ·refine aU<|aC Z<|aP<|aS<|aG ?_;cases h;exact mO Z
 refine cL<|aN<|eB (λd=>qU d=some r) (λd n=>[(2,vB (d))]) (λd n=>[]) ?_ ?_
 ·refine aR<|bV Z<|dK 0 Z<|eI h λp i h=>aJ (zBb aac (GJ U f p i) Z (iB [0] Z)) Z λq=>aA Z ?_;refine vW (by exact rfl) (by exact rfl) (λa=>?_) (λa=>?_)
  ·have h:=Hh a h;refine aW Z (cT Z Z Z Z Z) Z<|aW Z (dL 0 Z Z Z Z Z) Z<|eI h λe j h=>oU Z (zBb aad (Jg U g o e j) Z (iB [1] Z)) Z λs=>d_ Z<|aC Z<|aP ?_;exact cB (e) () h SF .nil (aH.refl _ _)
  have h:=En a h;refine aO Z<|aO Z<|aO Z<|eR Z<|aC Z<|aP ?_;exact cB (false) () h SF .nil (aH.refl _ _)
 intro d n h;unfold qU at h;refine aS ?_;cases h;exact iR Z
def tB (a:Int):Option (Int):=
 some (a)
def iD (U:Nat) (b a:Int):Option (Int):=
 if a<(1:Int)then(some (0:Int))else(ck (a≠0) (if(Int.tmod b a)<(0:Int)then(tB (wI .i64 ((Int.tmod b a)+a)))else(tB (Int.tmod b a))))
theorem El:bB Tryz.prog 13:=Tryz.call13
theorem kK (U:Nat) {d b:Int} (r:Int) (h:iD U d b=some r):
  bE Tryz.prog 13 #[vI (d),vI (b)] [] (λx:Unit=>vI (r)) (λx l=>l) (λ_ l=>l):=by
 refine bE.of Tryz.func13 Z Tryz.ntmps13 Z λc=>?_;refine aU<|aC Z<|aP<|aN<|aU<|aA Z<|cU Z<|aP ?_;refine eG h Z (λh=>?_) λh=>?_
 ·refine aU<|aC Z<|aP<|aS<|aG ?_;cases h;exact iR Z
 refine cL<|aU<|aA Z<|aA Z<|cQ h λf h=>aB (Nr Z Z f) Z<|aC Z<|aP<|aN<|eB (λa=>tB a=some r) (λa e=>[(0,vI (a))]) (λa e=>[]) ?_ ?_
 ·refine aU<|aA Z<|cU Z<|aP ?_;refine eG h Z (λh=>?_) λh=>?_
  ·refine aR<|aA Z<|aA Z<|cN Z<|aC Z<|aP ?_;exact f_ (wI .i64 ((Int.tmod d b)+b)) () h SF Z
  refine cL ?_;exact f_ (Int.tmod d b) () h SF Z
 intro a e h;unfold tB at h;refine aU<|aA Z<|aC Z<|aP<|aS ?_;cases h;exact iR Z
def uZ (U:Nat) (b:bT) (a:Int):Option (Int):=
 if a<(b.length:Int)then(ck (0<=a/\a<(b.length:Int)) (some (at' b a)))else(some (0:Int))
theorem LA:bB Tryz.prog 65:=Tryz.call65
theorem DJ (U:Nat) {b:bT} {d:Int} (e:V0) (r:Int) (h:uZ U b d=some r):
  bE Tryz.prog 65 #[e,vI (d)] [Sl aM e b] (λx:Unit=>vI (r)) (λx l=>l) (λ_ l=>l):=by
 refine bE.of Tryz.func65 Z Tryz.ntmps65 Z λc=>?_;refine aU<|aC Z<|aP<|aN<|aU<|aA Z<|aA Z<|iL (b_ Z) Z<|cU Z<|aP ?_;refine eG h Z (λh=>?_) λh=>?_
 ·refine aU<|aA Z<|aA Z<|cQ h λa h=>aB (bG Z Z (b_ Z) Z Z a) Z<|aB (cI Z (b_ Z) Z Z Z eZ a) Z<|aC Z<|aP<|aS<|aG ?_;cases h;exact iR Z
 refine cL<|aU<|aC Z<|aP<|aS ?_;cases h;exact iR Z
def pM (b:Int) (a:bT):Option w_:=
 some ((a,(List.replicate (Int.toNat (wI .i64 ((1:Int)+b))) ([]:fI))))
def uP (a:Int×bT) (c:(Int×bT)->Option w_) (b:Int):Option w_:=
 ck ((a.2.length:Int)+(List.length ([b]):Int)<=1099511627) (c ((wI .i64 (a.1+(1:Int))),(a.2++[b])))
def mH (b:fW->Option w_) (a:fF):Option w_:=
 b (a.1,(wI .i64 (a.2+(1:Int))))
def mI (b:Int×bT) (d:(Int×bT)->Option w_) (a:fF) (c:fW->Option w_):Option w_:=
 if a.2<b.1 then(ck (0<=a.2/\a.2<(b.2.length:Int)) (if(at' b.2 a.2)=a.1 then(ck ((256:Int)≠0) (mH c ((Int.tmod (wI .i64 (a.1+(1:Int))) (256:Int)),(-1:Int))))else(mH c (a.1,a.2))))else(uP b d (a.1))
def kS (U:Nat) (f:Bo) (e:Int) (a:Int×bT) (b:(Int×bT)->Option w_):Option w_:=
 if a.1<(wI .i64 ((1:Int)+e))then(Option.bind (uZ U f.2.2.2.1 a.1) λc=>(Option.bind (iD U c (256:Int)) λd=>(bL (mI a b) U (d,(0:Int)))))else(pM e (a.2))
def qJ (U:Nat) (b:Bo) (c:Int):Option w_:=
 Option.bind (iD U (wI .i64 (b.1 - (1:Int))) c) λa=>(ck (0<=(wI .i64 ((1:Int)+a))/\(wI .i64 ((1:Int)+a))<=1099511627) (bL (kS U b a) U ((0:Int),([]:bT))))
theorem adg:bB Tryz.prog 63:=Tryz.call63
theorem Hx (U:Nat) {k:Bo} {p1:Int} (R S Q:V0) (r:GU) (h:qJ U k p1=some r):
  bE Tryz.prog 63 #[Value.agg #[vI (k.1),R,S,Q,vB (k.2.2.2.2.1),vB (k.2.2.2.2.2)],vI (p1)] [Sl aM R k.2.1,Sl aM S k.2.2.1,Sl aM Q k.2.2.2.1] (λx:V0×V0×List V0=>Value.agg #[x.1,x.2.1]) (λx l=>Ar fT x.1 r.1::Ar bJ.raw x.2.1 x.2.2::fQ bX x.2.2 r.2::l) (λ_ l=>l):=by
 refine bE.of Tryz.func63 Z Tryz.ntmps63 Z λc=>?_;refine aU<|aJ (aQ.box (cs:=[vI (k.1),R,S,Q,vB (k.2.2.2.2.1),vB (k.2.2.2.2.2)]) Z Z) Z λF=>let t:=bM F [vI (k.1),R,S,Q,vB (k.2.2.2.2.1),vB (k.2.2.2.2.2)] 24;aJ (aQ.alloc (cs:=[cW,cW]) Z Z) Z λE=>let s:=bM E [cW,cW] 31;aP<|aU<|bV Z<|dK 1 Z<|aB (nI Z Z) Z<|aA Z<|eI h λP w4 h=>let p:=(wI .i64 ((1:Int)+P));let C:=(Int.toNat p);let y:=(List.replicate C (cW));let o:=fQ bX y (List.replicate C ([]:fI));aJ (zBb El (kK U P w4) Z .nil) Z λx5=>cN Z<|aC Z<|aP<|aU<|aA Z<|cQ h λj6 h=>bZ (Ct bX C)<|aJ (By (e:=bJ.raw) (cW) Z Z Z Z j6 Z Z Z) Z λv=>let q:=Ar bJ.raw v y;bD (tM (fG (i:=0) (j:=1) Z Z cR)) λT=>?_
 refine aB (Oy (r:=Value.agg #[cW,v]) Z (by intro w;simp[Instr.build,Instr.fill,gT,fN,e_,gU,gV,fO,iS,iF T])) Z ?_;refine aJ (aQ.alloc (cs:=[cW,cW]) Z Z) Z λu=>bD (tM (fG (i:=1) (j:=2) Z Z cR)) λJ=>cD 0 (vs:=[cW,v]) Z Z (fY Z (fY J Z)) Z Z Z<|aP<|aN<|KC (B:=V0) (λn=>pM P n=some r) (λn m=>[(4,vP E),(6,vP u)]) (λn m=>[bM u [m,v] 31,q,o,s,Ar fT m n]) ?_ ?_
 ·refine aU<|aC Z<|aP<|aT<|bZ (gC fT)<|eW (B:=V0) (kS U k P) (λa g=>[(2,vP F),(4,vP E),(5,vI p),(6,vP u),(7,vI (a.1))]) (λa g=>[bM u [g,v] 31,q,o,s,t,Ar fT g a.2]) ((0:Int),([]:bT)) (cW) h SF (a_.ix [1,2,3,4,5,0] Z Z) ?_;intro X a g h;let D:=Ar fT g a.2;let A:=bM u [g,v] 31;let z:=(bL (kS U k P) X)
  refine aN<|aU<|aA Z<|aA Z<|cU Z<|aP ?_;refine eG h Z (λh=>?_) λh=>?_
  ·refine cL<|aN<|aT<|aU<|bV Z<|dK 4 Z<|aA Z<|eI h λaa ac h=>aJ (zBb LA (DJ U Q aa ac) Z (iB [2] Z)) Z λaf=>eI h λO ad h=>aJ (zBb El (kK U O ad) Z .nil) Z λag=>aC Z<|aP<|aN<|eB (λb=>uP a z b=some r) (λb G=>[(2,vP F),(4,vP E),(5,vI p),(6,vP u),(7,vI (a.1)),(8,vI (b))]) (λb G=>[A,q,o,s,t,D]) ?_ ?_
   ·refine aU<|aC Z<|aP<|aT<|eW (mI a z) (λd H=>[(2,vP F),(4,vP E),(5,vI p),(6,vP u),(7,vI (a.1)),(8,vI (d.1)),(9,vI (d.2))]) (λd H=>[A,q,o,s,t,D]) (O,(0:Int)) () h SF (a_.refl _) ?_;intro Y d H h;refine aN<|aU<|aA Z<|aA Z<|cU Z<|aP ?_;refine eG h Z (λh=>?_) λh=>?_
    ·refine cL<|aN<|eB (λf=>mH (bL (mI a z) Y) f=some r) (λf I=>[(2,vP F),(4,vP E),(5,vI p),(6,vP u),(7,vI (a.1)),(8,vI (f.1)),(9,vI (f.2))]) (λf I=>[A,q,o,s,t,D]) ?_ ?_
     ·refine aT<|aU<|bV Z<|dK 0 Z<|aA Z<|cQ h λN h=>aB (bG Z Z (dR (aI.res 5 Z) iY) Z Z N) Z<|aB (cI Z (dR (aI.res 5 Z) iY) Z Z Z eZ N) Z<|aA Z<|cH Z<|aP ?_;refine eG h Z (λh=>?_) λh=>?_
      ·refine aR<|aA Z<|cN Z<|cQ h λW h=>aB (Nr Z Z W) Z<|aC Z<|aC Z<|eS<|lA ?_;exact f_ ((Int.tmod (wI .i64 (d.1+(1:Int))) (256:Int)),(-1:Int)) () h SF Z
      refine dW<|lA ?_;exact f_ (d.1,d.2) () h SF Z
     intro f I h;unfold mH at h;refine aR<|aA Z<|cN Z<|aC Z<|aP ?_;exact xD (f.1,(wI .i64 (f.2+(1:Int)))) () h SF Z
    refine eP ?_;exact f_ (d.1) () h SF Z
   intro b G h;refine aR<|bV Z<|dK 0 Z<|aA Z<|aJ (cX (e:=fT) ([b]) [(0,vI (b))] Z Z Z Z (jU (vI (b)) Z) Z Z Z) Z λae=>cQ h λV h=>aJ (jN 6 iY Z Z Z (dR (aI.res 0 Z) iY) Z Z Z Z V Z) Z λab=>bV Z<|bD (Know.one ((dR (aI.res 6 Z) iY))) λM=>qN 1 Z Z M Z Z Z<|eS<|lA<|aR<|aA Z<|cN Z<|aC Z<|aP ?_;exact iP ((wI .i64 (a.1+(1:Int))),(a.2++[b])) (ab) h SF (a_.ix [1,2,3,4,5,6] Z Z) (aH.refl _ _)
  refine eP ?_;exact cB (a.2) (g) h SF (a_.ix [0,1,2,3,5] Z Z) (aH.refl _ _)
 intro n m h;unfold pM at h;refine aU<|cM 0 Z<|bD (Know.one ((dR (aI.res 4 Z) iY))) λK=>bD (tM (fG (i:=1) (j:=2) Z Z cR)) λL=>cD 3 (vs:=[m,v]) Z Z (fY K (fY L Z)) Z Z Z<|aP<|aS ?_;cases h;exact kY (m,v,y) Z Z (RV.cell 3 Z Z Z Z) (a_.ix [4,1,2] Z Z) aH.nil
def yQ (a:Unit):Option Bool:=
 some (false)
def CR (c:cJ) (a e b:Int) (d:(Int)->Option Bool):Option Bool:=
 ck (0<=a/\a<(c.2.length:Int)) (if b<((at' c.2 a).length:Int)then(ck (0<=a/\a<(c.2.length:Int)) (ck (0<=b/\b<((at' c.2 a).length:Int)) (if((at' (at' c.2 a) b).1)=e then(some (true))else(d (wI .i64 (b+(1:Int)))))))else(yQ (())))
def oI (U:Nat) (a:cJ) (b c:Int):Option Bool:=
 bL (CR a b c) U (0:Int)
theorem ZZ:bB Tryz.prog 106:=Tryz.call106
theorem My (U:Nat) {g:cJ} {i j:Int} (k m:V0) (q:kX) (r:Bool) (h:oI U g i j=some r):
  bE Tryz.prog 106 #[Value.agg #[k,m],vI (i),vI (j)] [Sl aM k g.1,S2 aY m q g.2] (λx:Unit=>vB (r)) (λx l=>l) (λ_ l=>l):=by
 refine bE.of Tryz.func106 Z Tryz.ntmps106 Z λc=>?_;unfold oI at h;refine aU<|aJ (aQ.box (cs:=[k,m]) Z Z) Z λn=>aC Z<|aP<|aN<|eB (λd=>yQ d=some r) (λd o=>[]) (λd o=>[]) ?_ ?_
 ·refine aU<|aC Z<|aP<|aT<|eW (CR g i j) (λe p=>[(1,vI (i)),(2,vI (j)),(3,vP n),(7,vI (e))]) (λe p=>[bM n [k,m] 31]) (0:Int) () h SF (a_.refl _) ?_;intro s e p h;refine aN<|aU<|aA Z<|bV Z<|dK 0 Z<|aA Z<|cQ h λf h=>aB (bK Z Z (mR Z) Z Z f) Z<|aB (bS Z (mR Z) Z Z f) Z<|aB (fH Z (zBc (mR Z) f.1 f.2) Z) Z<|cU Z<|aP ?_;refine eG h Z (λh=>?_) λh=>?_
  ·refine cL<|aN<|aT<|aU<|bV Z<|dK 0 Z<|aA Z<|cQ h λa h=>aB (bK Z Z (mR Z) Z Z a) Z<|aB (bS Z (mR Z) Z Z a) Z<|aA Z<|cQ h λb h=>aB (bG Z Z (zBc (mR Z) a.1 a.2) Z Z b) Z<|aB (dC Z Z Z Z Z) Z<|aB (eL Z (zBc (mR Z) a.1 a.2) Z Z Z gA b) Z<|aA Z<|cH Z<|aP ?_;refine eG h Z (λh=>?_) λh=>?_
   ·refine aU<|aC Z<|aP<|aS<|bF<|aG<|aG<|bF<|aG ?_;cases h;exact mO Z
   refine dW<|lA<|aR<|aA Z<|cN Z<|aC Z<|aP ?_;exact xD (wI .i64 (e+(1:Int))) () h SF Z
  refine eP ?_;exact cB () (()) h SF .nil (aH.refl _ _)
 intro d o h;unfold yQ at h;refine aU<|aC Z<|aP<|aS ?_;cases h;exact iR Z
def qG (f:Bo) (c:cJ) (a b d:Int) (e:Bool):Option (iI):=
 if e=true then(some (c.2))else(if f.2.2.2.2.2=true then(ck (0<=a/\a<(c.2.length:Int)) (ck ((List.length ([(b,d)]):Int)+((at' c.2 a).length:Int)<=1099511627) (ck (0<=a/\a<(c.2.length:Int)) (ck (0<=b/\b<((List.set c.2 (Int.toNat a) (([(b,d)])++(at' c.2 a))).length:Int)) (ck ((List.length ([(a,d)]):Int)+((at' (List.set c.2 (Int.toNat a) (([(b,d)])++(at' c.2 a))) b).length:Int)<=1099511627) (ck (0<=b/\b<((List.set c.2 (Int.toNat a) (([(b,d)])++(at' c.2 a))).length:Int)) (some (List.set (List.set c.2 (Int.toNat a) (([(b,d)])++(at' c.2 a))) (Int.toNat b) (([(a,d)])++(at' (List.set c.2 (Int.toNat a) (([(b,d)])++(at' c.2 a))) b))))))))))else(ck (0<=a/\a<(c.2.length:Int)) (ck (0<=b/\b<(c.2.length:Int)) (ck (((at' c.2 a).length:Int)+(List.length ([(b,d)]):Int)<=1099511627) (ck (((at' c.2 b).length:Int)+(List.length ([(a,d)]):Int)<=1099511627) (ck (Int.toNat a≠Int.toNat b) (ck (0<=a/\a<((List.set (List.set c.2 (Int.toNat a) ((at' c.2 a)++([(b,d)]))) (Int.toNat b) ((at' c.2 b)++([(a,d)]))).length:Int)) (ck (0<=b/\b<((List.set (List.set c.2 (Int.toNat a) ((at' c.2 a)++([(b,d)]))) (Int.toNat b) ((at' c.2 b)++([(a,d)]))).length:Int)) (some (List.set (List.set c.2 (Int.toNat a) ((at' c.2 a)++([(b,d)]))) (Int.toNat b) ((at' c.2 b)++([(a,d)]))))))))))))
def oE (U:Nat) (e:Bo) (a:cJ) (b c f:Int):Option (iI):=
 if b=c then(qG e a b c f (true))else(Option.bind (oI U ((a.1,a.2)) b c) λd=>(qG e a b c f (d)))
theorem Xp:bB Tryz.prog 64:=Tryz.call64
theorem DF (U:Nat) {a:Bo} {G:cJ} {m n d:Int} (J K L H D:V0) (E:fL) (r:iI) (h:oE U a G m n d=some r):
  Fg Tryz.prog 64 #[Value.agg #[vI (a.1),J,K,L,vB (a.2.2.2.2.1),vB (a.2.2.2.2.2)],Value.agg #[H,D],vI (m),vI (n),vI (d)] [Ar bJ.raw D E,fQ bX E G.2] [Sl aM J a.2.1,Sl aM K a.2.2.1,Sl aM L a.2.2.2.1,Sl aM H G.1] (λx:fL=>Value.tuple #[]) (λx l=>Ar bJ.raw D x::fQ bX x r::l):=by
 let ae:=Value.agg #[vI (m),vI (d)];let ad:=Value.agg #[vI (n),vI (d)];refine Fg.of (vs:=[Value.agg #[vI (a.1),J,K,L,vB (a.2.2.2.2.1),vB (a.2.2.2.2.2)],Value.agg #[H,D],vI (m),vI (n),vI (d)]) Tryz.func64 Z Tryz.ntmps64 Z λc=>?_;refine aU<|aJ (aQ.box (cs:=[vI (a.1),J,K,L,vB (a.2.2.2.2.1),vB (a.2.2.2.2.2)]) Z Z) Z λb1=>aJ (aQ.box (cs:=[H,D]) Z Z) Z λb2=>aP<|aN<|aN<|jW (B:=Unit) (λI=>qG a G m n d I=some r) (λI b5=>[(2,vI (m)),(3,vI (n)),(4,vI (d)),(5,vP b1),(6,vP b2),(20,vB (I))]) (λI b5=>[bM b2 [H,D] 31,bM b1 [vI (a.1),J,K,L,vB (a.2.2.2.2.1),vB (a.2.2.2.2.2)] 24,Ar bJ.raw D E,fQ bX E G.2]) (λI b5=>[Sl aM J a.2.1,Sl aM K a.2.2.1,Sl aM L a.2.2.2.1,Sl aM H G.1]) ?_ ?_
 ·refine aR<|aA Z<|aA Z<|cH Z<|aA Z ?_;refine Ds h Z (λ_ h=>?_) λ_ h=>?_
  ·refine aO Z<|aO Z<|aO Z<|aO Z<|d_ Z<|aP ?_;exact f_ (true) () h SF Z
  refine aW Z (dN 0 Z Z Z Z) Z<|dD Z<|dD Z<|eI h λaf ac h=>oU Z (zBb ZZ (My U H D (List.zip E G.2) af ac) Z (aH.cons (Bh Z) (aH.cons (fG (i:=2) (j:=3) Z Z cR) .nil))) Z λau=>eR Z<|aP ?_;exact f_ (af) () h SF Z
 intro I b5 h;refine rR h Z (λ_ h=>?_) λ_ h=>?_
 ·refine aS<|aG ?_;cases h;exact On (E) Z Z .ret (.inl Z) (a_.ix [2,3] Z Z) aH.nil
 refine cL<|aU<|aA Z<|aA Z ?_;refine aB (Gi (r:=Value.agg #[vI (n),vI (d)]) Z Z (by intro w;simp[Instr.build,Instr.fill,gT,fN,e_,gU,gV,fO,iS])) Z ?_;refine aA Z<|aA Z ?_;refine aB (Gi (r:=Value.agg #[vI (m),vI (d)]) Z Z (by intro w;simp[Instr.build,Instr.fill,gT,fN,e_,gU,gV,fO,iS])) Z ?_;refine aJ (aQ.alloc (cs:=TF) Z Z) Z λb7=>aJ (aQ.alloc (cs:=TF) Z Z) Z λb8=>cD 1 (vs:=[vI (n),vI (d)]) Z Z Z Z Z Z<|cD 0 (vs:=[vI (m),vI (d)]) Z Z Z Z Z Z<|aP<|aN<|aU<|bV Z<|dK 3 Z<|aP ?_;refine rR h Z (λ_ h=>?_) λ_ h=>?_
 ·refine aN ?_;refine rP [0,1,0,0,8,0,32,0,224,480,1016,2047,4095] 11 mixedOrders ?_;refine cC Z<|eQ 2 Z<|aV Z<|jA 1 Z<|zBd Z Z Z (cX (e:=bX) ([((n,d))]) [(0,ad)] Z Z Z Z (IG (vI (n)) (vI (d))) Z Z Z) Z (λan=>(nK [([3],[])] Z)) λan=>eN Z (cT Z Z Z Z Z)<|bA Z (a_.cons 3 Z .nil) .nil (dL 0 Z Z Z Z Z) (aL.h (a_.ix [2] Z Z) .nil aL.z)<|eN Z (dG Z)<|cQ h λt h=>aZ (dQ 6 Z) λM=>?_;refine bA Z (a_.cons 5 Z .nil) .nil (uJ 0 Z Z Z Z Z t.1 (by have y:=t.2;have A:=M;(try simp only[zA1]at y);(try simp only[zA1]at A);(try simp only[zA1]);omega)) (aL.h (a_.ix [4] Z Z) .nil aL.z) ?_;refine aZ (dQ 6 Z) λN=>bA Z (a_.cons 5 Z .nil) .nil (gE 0 Z Z N Z Z t) (aL.h (a_.ix [4] Z Z) .nil aL.z)<|cQ h λaj h=>zBd Z Z Z (jN 0 cR Z Z Z (aI.row (j:=6) Z cR t.1 t.2) Z Z Z Z aj Z) Z (λag=>(nK [([3],[])] Z)) λag=>bN 11 Z Z<|cQ h λu h=>aB (bK Z Z (fG (i:=5) (j:=6) Z Z cR) Z Z u) Z<|bD (Know.one ((dR (aI.res 0 Z) cR))) λX=>bZ (Dp (k:=m) 6 0 Z Z Z u) ?_;refine Bv 4 5 ⟨u.1,by first|exact u.2|simpa using u.2⟩ Z Z Z Z Z (by simp) X Z ?_;refine aP<|aN ?_;refine rP [0,1,0,0,8,0,32,0,224,480,1016,2047,4095] 11 mixedOrders ?_;refine cC Z<|eQ 2 Z<|aV Z<|jA 0 Z<|zBd Z Z Z (cX (e:=bX) ([((m,d))]) [(0,ae)] Z Z Z Z (IG (vI (m)) (vI (d))) Z Z Z) Z (λao=>(nK [([3],[])] Z)) λao=>eN Z (cT Z Z Z Z Z)<|bA Z (a_.cons 3 Z .nil) .nil (dL 0 Z Z Z Z Z) (aL.h (a_.ix [2] Z Z) .nil aL.z)<|eN Z (dG Z)<|cQ h λp h=>aZ (dQ 6 Z) λO=>?_;refine bA Z (a_.cons 5 Z .nil) .nil (uJ 0 Z Z Z Z Z p.1 (by have y:=p.2;have A:=O;(try simp only[zA1]at y);(try simp only[zA1]at A);(try simp only[zA1]);omega)) (aL.h (a_.ix [4] Z Z) .nil aL.z) ?_;refine aZ (dQ 6 Z) λP=>bA Z (a_.cons 5 Z .nil) .nil (gE 0 Z Z P Z Z p) (aL.h (a_.ix [4] Z Z) .nil aL.z)<|cQ h λak h=>zBd Z Z Z (jN 0 cR Z Z Z (aI.row (j:=6) Z cR p.1 (by first|exact p.2|simpa using p.2)) Z Z Z Z ak Z) Z (λah=>(nK [([3],[])] Z)) λah=>?_;refine bN 11 Z Z<|cQ h λv h=>aB (bK Z Z (fG (i:=5) (j:=6) Z Z cR) Z Z v) Z<|bD (Know.one ((dR (aI.res 0 Z) cR))) λY=>bZ (Dp (k:=n) 6 0 Z Z Z v) ?_;refine Bv 4 5 ⟨v.1,by first|exact v.2|simpa using v.2⟩ Z Z Z Z Z (by simp) Y Z ?_;refine aP<|aS<|aG ?_;cases h;exact On (List.set (List.set E (Int.toNat m) ag) (Int.toNat n) ah) Z Z .ret (.inl Z) (a_.ix [4,5] Z Z) aH.nil
 refine cL<|cQ h λq h=>cQ h λC h=>cQ h λF h=>cQ h λal h=>cQ h λam h=>cQ h λf h=>cQ h λg h=>Jt [0,1,0,0,8,0,0,64,0,448,960,0,2048,8128,0,16384,0,114688,245760,0,524288,2097088,4194247,8388551,16777215,33554431] 24 [[0,1,2,3,4,5,6,7,8,9,10,11,14,15,16,17,18,19,12,13,20,21,22,23,24,25],[0,1,2,3,4,5,6,7,8,9,10,11,14,15,16,17,18,19,12,20,13,21,22,23,24,25],[0,1,2,3,4,5,6,7,8,9,10,11,14,15,16,17,18,19,20,12,13,21,22,23,24,25]] mixedOrders (by decide +kernel) (by decide +kernel) ?_;intro o ho;simp only[zAn,List.not_mem_nil,or_false]at ho;rcases ho with rfl|rfl|rfl
 all_goals
  iterate 24 first
   |refine bA (i:=0) Z .nil .nil (cT Z Z Z Z Z) aL.z ?_
   |refine bA (i:=1) Z (a_.cons 2 Z .nil) .nil (dL 0 Z Z Z Z Z) aL.z ?_
   |refine bA (i:=2) Z .nil .nil (dG Z) aL.z ?_
   |refine bA (i:=3) Z .nil .nil (cT Z Z Z Z Z) aL.z ?_
   |refine bA (i:=4) Z (a_.cons 2 Z .nil) .nil (dL 0 Z Z Z Z Z) aL.z ?_
   |refine bA (i:=5) Z .nil .nil (dG Z) aL.z ?_
   |refine bA (i:=6) Z .nil .nil (cT Z Z Z Z Z) aL.z ?_
   |refine bA (i:=7) Z (a_.cons 2 Z .nil) .nil (dL 0 Z Z Z Z Z) aL.z ?_
   |refine bA (i:=8) Z .nil .nil (dG Z) aL.z ?_
   |refine aZ (dQ 5 Z) λQ=>?_
    refine bA (i:=9) Z (a_.cons 4 Z .nil) .nil (uJ 0 Z Z Z Z Z q.1 (by have y:=q.2;have A:=Q;(try simp only[zA1]at y);(try simp only[zA1]at A);(try simp only[zA1]);omega)) aL.z ?_
   |refine aZ (dQ 5 Z) λR=>?_
    refine bA (i:=10) Z (a_.cons 4 Z .nil) .nil (gE 0 Z Z R Z Z q) aL.z ?_
   |refine bA (i:=11) Z (a_.cons 1 Z .nil) .nil (dN 0 Z Z Z Z) aL.z ?_
   |refine zBd (i:=12) Z Z Z (cX (e:=bX) ([((n,d))]) [(0,ad)] Z Z Z Z (IG (vI (n)) (vI (d))) Z Z Z) Z (λap=>(by first|exact vV.h (a_.ix [1] Z Z) .nil (nK [([5],[]),([5],[]),([3],[]),([5],[]),([5],[]),([3],[]),([3],[]),([3],[])] Z)|exact vV.h (a_.ix [2] Z Z) .nil (nK [([6],[]),([6],[]),([4],[]),([6],[]),([6],[]),([4],[]),([4],[]),([4],[])] Z))) λap=>?_
   |first
     |refine zBd (i:=13) Z Z Z (sN 6 cR Z Z Z (dR (aI.res 0 Z) cR) Z Z Z Z q F Z) Z (λs=>(nK [([1],[]),([5],[]),([5],[]),([3],[]),([3],[]),([3],[])] Z)) λs=>?_
     |refine zBd (i:=13) Z Z Z (sN 7 cR Z Z Z (dR (aI.res 1 Z) cR) Z Z Z Z q F Z) Z (λs=>(nK [([2],[]),([6],[]),([6],[]),([4],[]),([4],[]),([4],[])] Z)) λs=>?_
     |refine zBd (i:=13) Z Z Z (sN 7 cR Z Z Z (dR (aI.res 0 Z) cR) Z Z Z Z q F Z) Z (λs=>(nK [([2],[]),([6],[]),([6],[]),([4],[]),([4],[]),([4],[])] Z)) λs=>?_
   |refine bA (i:=14) Z .nil .nil (cT Z Z Z Z Z) aL.z ?_
   |refine bA (i:=15) Z (a_.cons 2 Z .nil) .nil (dL 0 Z Z Z Z Z) aL.z ?_
   |refine bA (i:=16) Z .nil .nil (dG Z) aL.z ?_
   |refine aZ (dQ 5 Z) λS=>?_
    refine bA (i:=17) Z (a_.cons 4 Z .nil) .nil (uJ 0 Z Z Z Z Z C.1 (by have y:=C.2;have A:=S;(try simp only[zA1]at y);(try simp only[zA1]at A);(try simp only[zA1]);omega)) aL.z ?_
   |refine aZ (dQ 5 Z) λT=>?_
    refine bA (i:=18) Z (a_.cons 4 Z .nil) .nil (gE 0 Z Z T Z Z C) aL.z ?_
   |refine bA (i:=19) Z (a_.cons 0 Z .nil) .nil (dN 0 Z Z Z Z) aL.z ?_
   |refine zBd (i:=20) Z Z Z (cX (e:=bX) ([((m,d))]) [(0,ae)] Z Z Z Z (IG (vI (m)) (vI (d))) Z Z Z) Z (λaq=>(by first|exact vV.b Z (nK [([6],[]),([6],[]),([4],[]),([3],[]),([6],[]),([6],[]),([4],[]),([4],[]),([4],[])] Z)|exact vV.b Z (nK [([5],[]),([5],[]),([3],[]),([2],[]),([5],[]),([5],[]),([3],[]),([3],[]),([3],[])] Z))) λaq=>?_
   |refine zBd (i:=21) Z Z Z (Ky (j:=m) 7 cR Z Z Z (by first|exact dR (aI.res 0 Z) cR|exact dR (aI.res 1 Z) cR) Z Z Z Z C al Z am) Z (λai=>(nK [([4],[]),([4],[])] Z)) λai=>?_
   |refine aZ (dQ 7 Z) λV=>?_
    refine bA (i:=22) Z (a_.cons 6 Z .nil) .nil (uJ 0 Z Z Z Z Z f.1 (by have y:=f.2;have A:=V;(try simp only[zA1]at y);(try simp only[zA1]at A);(try simp only[zA1]);omega)) (uR Z) ?_
   |refine aZ (Oo (k:=m) (j:=n) 7 Z (by omega) ⟨f.1,by first|exact f.2|simpa using f.2⟩) λaa=>?_
    refine Qd (i:=23) Z Z Z (MR 6 7 ⟨f.1,by first|exact f.2|simpa using f.2⟩ Z Z Z Z (by simp) aa Z) (λar=>(nK [([4],[])] Z)) λar=>?_
  refine bN 24 Z Z<|bD (dQ 7 Z) λW=>?_;refine aB (uJ 6 Z Z Z Z Z g.1 (by have y:=g.2;have A:=W;(try simp only[zA1]at y);(try simp only[zA1]at A);(try simp only[zA1]);omega)) Z ?_;refine bD (Kc 7 (k:=n) Z ⟨g.1,by first|exact g.2|simpa using g.2⟩) λab=>?_;refine Bv 6 7 ⟨g.1,by first|exact g.2|simpa using g.2⟩ Z Z Z Z Z (by simp) ab Z ?_;refine eS ?_;cases h;exact On (List.set (List.set E (Int.toNat m) s) (Int.toNat n) ai) Z Z .normal (.inr Z) (a_.ix [6,7] Z Z) aH.nil
def qF (b:GU) (a:iI):Option w_:=
 some ((b.1,a))
def xB (U:Nat) (b:Bo) (i:GU) (a:Int×iI) (c:(Int×iI)->Option w_):Option w_:=
 if a.1<(a.2.length:Int)then(Option.bind (uZ U b.2.1 (wI .i64 (a.1 - (1:Int)))) λd=>(Option.bind (iD U d a.1) λe=>(Option.bind (uZ U b.2.2.1 (wI .i64 (a.1 - (1:Int)))) λf=>(Option.bind (iD U f (15:Int)) λg=>(Option.bind (oE U ((b.1,b.2.1,b.2.2.1,b.2.2.2.1,b.2.2.2.2.1,b.2.2.2.2.2)) ((i.1,a.2)) e a.1 (wI .i64 ((1:Int)+g))) λh=>(c ((wI .i64 (a.1+(1:Int))),h)))))))else(qF i (a.2))
def oD (U:Nat) (a:Bo) (c:Int):Option w_:=
 Option.bind (qJ U ((a.1,a.2.1,a.2.2.1,a.2.2.2.1,a.2.2.2.2.1,a.2.2.2.2.2)) c) λb=>(bL (xB U a b) U ((1:Int),b.2))
theorem Xh:bB Tryz.prog 24:=Tryz.call24
theorem DD (U:Nat) {p0:Bo} {p1:Int} (n o p:V0) (r:GU) (h:oD U p0 p1=some r):
  bE Tryz.prog 24 #[Value.agg #[vI (p0.1),n,o,p,vB (p0.2.2.2.2.1),vB (p0.2.2.2.2.2)],vI (p1)] [Sl aM n p0.2.1,Sl aM o p0.2.2.1,Sl aM p p0.2.2.2.1] (λx:V0×V0×List V0=>Value.agg #[x.1,x.2.1]) (λx l=>Ar fT x.1 r.1::Ar bJ.raw x.2.1 x.2.2::fQ bX x.2.2 r.2::l) (λ_ l=>l):=by
 refine bE.of Tryz.func24 Z Tryz.ntmps24 Z λc=>?_;refine aU<|aJ (aQ.box (cs:=[vI (p0.1),n,o,p,vB (p0.2.2.2.2.1),vB (p0.2.2.2.2.2)]) Z Z) Z λR=>let t:=bM R [vI (p0.1),n,o,p,vB (p0.2.2.2.2.1),vB (p0.2.2.2.2.2)] 24;aJ (aQ.alloc (cs:=[cW,cW]) Z Z) Z λw=>let k:=bM w [cW,cW] 31;aP<|aU<|cM 1 Z<|aA Z<|eI h λu T h=>aJ (zBb adg (Hx U n o p u T) Z (iB [0,1,2] Z)) Z λd=>let m:=Ar fT d.1 u.1;aJ (aQ.alloc (cs:=[cW,cW]) Z Z) Z λy=>let g:=bM y [d.1,d.2.1] 31;bD (Know.one ((dR (aI.res 1 Z) iY))) λA=>bD (tM (fG (i:=2) (j:=3) Z Z cR)) λC=>cD 0 (vs:=[d.1,d.2.1]) Z Z (fY A (fY C Z)) Z Z Z<|aP<|aN<|KC (B:=fL) (λe=>qF u e=some r) (λe f=>[(4,vP w),(5,vP y)]) (λe f=>[g,m,Ar bJ.raw d.2.1 f,fQ bX f e,k]) ?_ ?_
 ·refine aU<|aC Z<|aP<|aT<|eW (B:=fL) (xB U p0 u) (λb a=>[(2,vP R),(4,vP w),(5,vP y),(6,vI (b.1))]) (λb a=>[g,m,Ar bJ.raw d.2.1 a,fQ bX a b.2,k,t]) ((1:Int),u.2) (d.2.2) h SF (a_.refl _) ?_;intro S b a h;refine aN<|aU<|aA Z<|bV Z<|dK 0 Z<|aB (dM Z (fG (i:=2) (j:=3) Z Z cR) Z) Z<|cU Z<|aP ?_;refine eG h Z (λh=>?_) λh=>?_
  ·refine cL<|aN<|aT ?_;refine rP [0,0,0,4,0,16,60,0,252,0,0,1024,0,4096,15868,32252,65020,131071] 17 mixedOrders ?_;refine jA 5 Z<|jA 0 Z<|cC Z<|eQ 5 Z<|aV Z<|eN Z (nI Z Z)<|eI h λD H h=>zBd Z Z Z (zBb LA (DJ U n D H) Z (iB [0] Z)) Z (λM=>(nK [([0],[]),([5],[])] Z)) λM=>eN Z (dG Z)<|eI h λE I h=>zBd Z Z Z (zBb El (kK U E I) Z .nil) Z (λN=>(nK [([0],[]),([5],[])] Z)) λN=>eN Z (dG Z)<|eN Z (cT Z Z Z Z Z)<|bA Z (a_.cons 5 Z .nil) .nil (dL 0 Z Z Z Z Z) (aL.h (a_.ix [5] Z Z) .nil (aL.h (a_.ix [5] Z Z) .nil aL.z))<|eN Z (dG Z)<|eN Z (nI Z Z)<|eI h λF J h=>zBd Z Z Z (zBb LA (DJ U o F J) Z (iB [1] Z)) Z (λO=>(nK [([0],[]),([5],[])] Z)) λO=>eI h λG K h=>zBd Z Z Z (zBb El (kK U G K) Z .nil) Z (λP=>(nK [([0],[]),([5],[])] Z)) λP=>eN Z (zN Z Z)<|bN 17 Z Z<|eI h λv L h=>aJ (Ff (Min:=[Ar bJ.raw d.2.1 a,fQ bX a b.2]) (Mr:=[g,m,k,t]) Xp (DF U n o p d.1 d.2.1 a v L) Z (a_.ix [2,3,0,1,4,5] Z Z) (aH.cons (b_ Z) (aH.cons (mR Z) (aH.cons (zI Z) (aH.cons (dR (aI.res 1 Z) iY) .nil)))) (λ_ _=>rfl)) Z λQ=>eS<|lA<|aR<|aA Z<|cN Z<|aC Z<|aP ?_;exact iP ((wI .i64 (b.1+(1:Int))),v) (Q) h SF (a_.ix [2,3,0,1,4,5] Z Z) (aH.refl _ _)
  refine eP ?_;exact cB (b.2) (a) h SF (a_.ix [0,1,2,3,4] Z Z) (aH.refl _ _)
 intro e f h;unfold qF at h;refine aU<|cM 0 Z<|bD (Know.one ((dR (aI.res 1 Z) iY))) λq=>bD (tM (fG (i:=2) (j:=3) Z Z cR)) λs=>cD 4 (vs:=[d.1,d.2.1]) Z Z (fY q (fY s Z)) Z Z Z<|aP<|aS ?_;cases h;exact kY (d.1,d.2.1,f) Z Z (RV.cell 4 Z Z Z Z) (a_.ix [1,2,3] Z Z) aH.nil
end Go.Proofs.YtflciafboapaaaaGreat
section
set_option maxRecDepth 100000
namespace Go.Gx
open Go Go.Sx Go.Proofs Go.Proofs.YtflciafboapaaaaGreat
noncomputable section
def afc (a:List GV) (H:GH):OR:=a1 a λb=>ob (XE H b) λp0=>ob (lD 1000 p0) λr=>ace r H
def afb (a:List GV) (H:GH):OR:=a2 a λb c=>ob (aeQ H b) λp0=>ob (dSc .i64 c) λp1=>ob (oD 1000 p0 p1) λr=>Tg r H
def XZ (f:Nat) (a:List GV) (H:GH):Option (GV×GH):=bif Nat.beq f 72 then afc a H else bif Nat.beq f 24 then afb a H else none
abbrev gl:Nat->CE:=λ_:Nat=>noG
def gp:GP:=⟨AY,94,XZ,XY 265⟩
section
variable {T:Nat} {w0:gN (gl T)} {w:World} {ρ:fJ} {H H':GH} {g:GV} {us:List GV} {vs:List V0}
theorem abd (h:afc us H=some (g,H')) (R:iO w0 ρ H w) (m:rQ ρ us vs):oT Tryz.prog w0 ρ 72 vs w g H':=by
 obtain⟨p,rfl,h⟩:=TM h;obtain⟨j,c,h⟩:=aF.1 h;obtain⟨r,l,h⟩:=aF.1 h;obtain⟨o,rfl,d⟩:=m.one;obtain⟨e,i,n,rfl,a,b⟩:=VA R d c;obtain⟨rfl,rfl⟩:=Tf h;exact SV Xq (HL 1000 (p0:=j) e i n r l) R (List.forall_mem_cons.2 ⟨a,List.forall_mem_cons.2 ⟨b,λf k=>absurd k List.not_mem_nil⟩⟩) λρ=> .bool _
theorem abc (h:afb us H=some (g,H')) (R:iO w0 ρ H w) (i:rQ ρ us vs):oT Tryz.prog w0 ρ 24 vs w g H':=by
 obtain⟨z,A,rfl,h⟩:=TN h;obtain⟨o,d,h⟩:=aF.1 h;obtain⟨p,e,h⟩:=aF.1 h;obtain⟨r,v,h⟩:=aF.1 h;obtain⟨x,vs,rfl,j,i⟩:=i.of_cons;obtain⟨y,rfl,k⟩:=i.one;obtain⟨l,m,n,rfl,a,b,c⟩:=aaO R j d;obtain rfl:=XG k e;obtain⟨q,s,t,rfl,rfl⟩:=QT h;exact SU aeV aeW q s t Xh (DD 1000 (p0:=o) (p1:=p) l m n r v) R (List.forall_mem_cons.2 ⟨a,List.forall_mem_cons.2 ⟨b,List.forall_mem_cons.2 ⟨c,λf u=>absurd u List.not_mem_nil⟩⟩⟩)
theorem OV {f:Nat} (h:XZ f us H=some (g,H')) (R:iO w0 ρ H w) (c:rQ ρ us vs):oT Tryz.prog w0 ρ f vs w g H':=by
 unfold XZ at h;cases a:Nat.beq f 72 with
 |true=>rw[a]at h;rw[zA9 a];exact abd h R c
 |false=>
 rw[a]at h;cases b:Nat.beq f 24 with
 |true=>rw[b]at h;rw[zA9 b];exact abc h R c
 |false=>
 rw[b]at h;cases h
end
theorem adC:aeS Tryz.prog AY=true:=by kernel_rfl
theorem Lg:gZ Tryz.prog AY:=⟨RA,adB adC⟩
theorem adX {a:CE} (b:gN a):uB Tryz.prog b (Nu AY 148 Tryz.f148):=Xw Lg mixedOrders Tryz.func148 Tryz.call148 (by kernel_rfl)
theorem adx (a:Array V0) (w:World) (c:a.size=2):CallsDIn (FR none) 0 Tryz.prog 147 a .returning w λe f g=>∃v,e = .returned v/\f = .returning/\Nk w g:=by
 obtain⟨d,h,b⟩:=Yy (r:=HC AY (Nu AY 148 Tryz.f148) (ON Tryz.f147) (evC AY (Nu AY 148 Tryz.f148) (λ_ _ _ _=>none) (Xu Tryz.f147) 0 ⟨[],0,[]⟩ (IX [])) (ON Tryz.f147).tail ⟨[(aaL Tryz.f147,.inil)],H0⟩) (by kernel_rfl);exact Vv (ch:=Nu AY 148 Tryz.f148) (lp:=λ_ _ _ _=>none) Lg mixedOrders adX Kq Tryz.func147 Z Z Z (by decide +kernel) (λi w=>by simp[execOp,resolve,invoke,builtin]) (by kernel_rfl) (by kernel_rfl) Z (by rw[c];decide +kernel) h b
theorem aeY {i:CE} {a:FuncId->List GV->GH->Option (GV×GH)} (o:∀(b:gN i) {f us H g H'},a f us H=some (g,H')->∀c w d,iO b c H w->rQ c us d->oT Tryz.prog b c f d w g H') (b:gN i):Wn Tryz.prog ⟨AY,94,a,XY 265⟩ KE.fns b:=by
 refine⟨Lg,mixedOrders,λh=> ?_,o b,λh c w d H R n=>aaZ Tryz.func265 Z Z Z Z h c w d H R n,λR l j k=> ?_⟩
 ·obtain⟨e,m,h⟩:=aF.1 (show ob (UH _) _=some _ from h);cases h;obtain⟨p,q,r⟩:=YN m;exact⟨p,q,QU r⟩
 ·exact adp (tb:=AY) (T1:=3) (T2:=47) (cc:=147) Lg Tryz.func94 Tryz.call94 Tryz.call147 Z Z Z (TP (by kernel_rfl)) (TP (by kernel_rfl)) (UM Z Z) (UM Z Z) (Yn Z Z) (Yn Z Z) adx R l j k
theorem gok {T:Nat} (a:gN (gl T)):Wn Tryz.prog gp KE.fns a:=aeY (λa f d H g c h i w e R b=>OV h R b) a
def gp0:GP:=⟨AY,94,λ_ _ _=>none,XY 265⟩
theorem aeX (a:gN noG):Wn Tryz.prog gp0 KE.fns a:=aeY (λa f c H g b h=>by cases h) a
end
end Go.Gx
end
namespace Go.Gx
open Go Go.Sx Go.RowKit
mutual
def Jb (k:Nat):GV->GV
 | .ptr h o=> .ptr (k+h) o
 | .sl h o l s=> .sl (k+h) o l s
 | .map h=> .map (k+h)
 | .fn f a b=> .fn f (Wr k a) (Wr k b)
 | .agg cs=> .agg (Wr k cs)
 | .tup vs=> .tup (Wr k vs)
 | .int a b=> .int a b
 | .bool b=> .bool b
 | .str a b=> .str a b
 | .pnil=> .pnil
 | .snil=> .snil
 | .fnil=> .fnil
 | .inil=> .inil
 | .un=> .un
 | .bad=> .bad
 | .opn h=> .opn (k+h)
def Wr (k:Nat):List GV->List GV
 | []=>[]
 |v::r=>Jb k v::Wr k r
end
theorem Px (k:Nat):∀(l:List GV) (i:Nat),(Wr k l)[i]? = (l[i]?).map (Jb k)
 | [],i=>rfl
 |v::r,0=>rfl
 |v::r,i+1=>by simpa [Wr]using Px k r i
theorem Hm (k:Nat):∀(l:List GV),(Wr k l).length=l.length
 | []=>rfl
 |v::r=>by simp[Wr,Hm k r]
def Zz (k:Nat):GO->GO
 | .cells cs=> .cells (Wr k cs)
 | .mp es=> .mp (es.map λe=>(Jb k e.1,Jb k e.2))
def DC (k:Nat) (l:No):No:={l with o:=Zz k l.o}
theorem Rl.shift {y e:fJ} {k:Nat} (c:∀h l,y h=some l->e (k+h)=some (DC k l)) {g:GV} {v:V0} (h:Rl y g v):Rl e (Jb k g) v:=by
 have d:∀{u:List GV} {j:fL},(∀(i:Nat) g v,u[i]? = some g->j[i]? = some v->Rl e (Jb k g) v)->∀(i:Nat) g v,(Wr k u)[i]? = some g->j[i]? = some v->Rl e g v:=by
  intro u j D i g v x E;rw[Px]at x;obtain⟨z,A,rfl⟩:=Option.map_eq_some_iff.1 x;exact D i z v A E
 induction h with
 |int a n=>simp only[Jb];exact .int a n
 |bool b=>simp only[Jb];exact .bool b
 |str s=>simp only[Jb];exact .str s
 |ptr t h=>simp only[Jb];exact .ptr (l:=DC k _) t (c _ _ h)
 |pnil=>simp only[Jb];exact .pnil
 |sl h C B=>simp only[Jb];exact .sl (l:=DC k _) (c _ _ h) C B
 |snil=>simp only[Jb];exact .snil
 |map h=>simp only[Jb];exact .map (l:=DC k _) (c _ _ h)
 |fn f m w o G q r=>simp only[Jb];exact .fn f (by rw[Hm];exact m) (d q) (by rw[Hm];exact o) (d r)
 |fnil=>simp only[Jb];exact .fnil
 |inil=>simp only[Jb];exact .inil
 |agg m w o p=>simp only[Jb];exact .agg (by rw[Hm];exact m) (d p) o
 |tup m w p=>simp only[Jb];exact .tup (by rw[Hm];exact m) (d p)
 |un=>simp only[Jb];exact .un
 |bad v=>simp only[Jb];exact .bad v
 |opn v h F=>simp only[Jb];exact .opn (l:=DC k _) v (c _ _ h) F
abbrev OL:=List (Nat×Nat×GO)
def Wq:OL->Nat->Option (Nat×GO)
 | [],_=>none
 |x::r,h=>if h=x.1 then some x.2 else Wq r h
theorem Pb {b:OL} {h:Nat} {p:Nat×GO} (a:Wq b h=some p):(h,p)∈b:=by
 induction b with
 |nil=>cases a
 |cons x r c=>
  simp only[Wq]at a;split at a
  ·rename_i e;cases a;subst e;exact zAe
  ·exact zAl _ (c a)
noncomputable def QZ (k:Nat) (t:Tr (Nat×GO)):OL->Tr (Nat×GO)
 | []=>t
 |x::r=>(QZ k t r).set (some (k+x.2.1,Zz k x.2.2)) (k+x.1)
noncomputable def abt:OL->Tr (Nat×GO)
 | []=> .lf
 |x::r=>(abt r).set (some x.2) x.1
theorem GA:∀(a:OL) (h:Nat),(abt a).get h=Wq a h
 | [],h=>rfl
 |x::r,h=>by
  show((abt r).set (some x.2) x.1).get h=_;rw[uH];simp only[Wq];split
  ·rfl
  ·exact GA r h
theorem Mf (k:Nat) (t:Tr (Nat×GO)):∀(b:OL) (h:Nat),(QZ k t b).get h=if k<=h then(match Wq b (h - k)with|some p=>some (k+p.1,Zz k p.2)|none=>t.get h)else t.get h
 | [],h=>by simp[QZ,Wq]
 | x :: r, h => by
  show((QZ k t r).set (some (k+x.2.1,Zz k x.2.2)) (k+x.1)).get h=_;rw[uH,Mf k t r h];by_cases e:h=k+x.1
  ·subst e;rw[if_pos Z,if_pos (by omega)];simp[Wq]
  ·rw[if_neg e];by_cases a:k<=h
   ·rw[if_pos a,if_pos a];simp only[Wq];rw[if_neg (show¬h - k=x.1 by omega)]
   ·rw[if_neg a,if_neg a]
noncomputable def KD (n:Nat) (a:OL):GH:=⟨n,abt a⟩
noncomputable def GH.load (H:GH) (n:Nat) (a:OL):GH:=⟨H.n+n,QZ H.n H.t a⟩
section
variable {gs:CE} {w0:gN gs} {w w':World} {ρ ρ2:fJ} {H:GH} {n:Nat} {os:OL}
theorem jI {H:GH} {h:Nat} {o:GO}:H.get h=some o↔∃v,H.t.get h=some (v,o):=by
 unfold GH.get;cases c:H.t.get h with
 |none=>simp[ob]
 |some p=>obtain⟨a,b⟩:=p;simp[ob]
theorem uD {H:GH} {h v:Nat}:H.ver h=some v↔∃o,H.t.get h=some (v,o):=by
 unfold GH.ver;cases c:H.t.get h with
 |none=>simp[ob]
 |some p=>obtain⟨a,b⟩:=p;simp[ob]
theorem iO.sub {d:GH} (R:iO w0 ρ H w) (z:d.n=H.n) (m:∀h p,d.t.get h=some p->H.t.get h=some p):iO w0 ρ d w:=by
 have g:∀h o,d.get h=some o->H.get h=some o:=λh o i=>by
  obtain⟨v,j⟩:=jI.1 i;exact jI.2 ⟨v,m _ _ j⟩
 refine⟨R.ext,λh o i=>R.live h o (g h o i),λh q o y l u e f=>R.inj h q o y l u (g _ _ e) (g _ _ f),λh r=>R.fresh h (by omega),λh r=>R.dense h (by omega),λh v l j s=> ?_,R.env⟩
 obtain⟨o,k⟩:=uD.1 j;obtain⟨x,a,b,c⟩:=R.vers h v l (uD.2 ⟨o,m _ _ k⟩) s;refine⟨x,a,b,?_⟩
 have e:=jI.2 ⟨v,k⟩;have f:=g _ _ e;rw[c]at f;cases f;exact e
theorem Ba.shift {l:No} {o:GO} {f:fJ} {k:Nat} (d:∀h l,ρ2 h=some l->f (k+h)=some (DC k l)) (h:Ba ρ2 w l o):Ba f w (DC k l) (Zz k o):=by
 cases o with
 |cells z=>
  obtain⟨j,T,r,s,t,y⟩:=h;refine⟨j,T,r,s,by rw[Hm];exact t,λi g e=> ?_⟩
  rw[Px]at e;obtain⟨p,q,rfl⟩:=Option.map_eq_some_iff.1 e;obtain⟨v,a,b,c⟩:=y i p q;exact⟨v,a,b.shift d,c⟩
 |mp A=>
  obtain⟨x,u,r,s,t⟩:=h;refine⟨x,u,r,by simpa [Zz]using s,λi g e=> ?_⟩
  rw[List.getElem?_map]at e;obtain⟨p,q,rfl⟩:=Option.map_eq_some_iff.1 e;obtain⟨m,a,b,c⟩:=t i p q;exact⟨m,a,b.shift d,c.shift d⟩
theorem iO.join {Y:CE} {hb:Kb Y w λ_=>False} (R:iO w0 ρ H w) (M:iO (gN.of w hb) ρ2 (KD n os) w'):
  ∃s:fJ,ρ.le s/\iO w0 s (H.load n os) w'/\∀g v,Rl ρ2 g v->Rl s (Jb H.n g) v:=by
 let s:fJ:=λh=>if h<H.n then ρ h else(ρ2 (h - H.n)).map (DC H.n);have G:ρ.le s:=λh l f=>by
  have ac:h<H.n:=by
   rcases zAu h H.n with q|q
   ·exact q
   ·rw[R.fresh h q]at f;cases f
  show(if h<H.n then ρ h else _)=_;rw[if_pos ac];exact f
 have K:∀h l,ρ2 h=some l->s (H.n+h)=some (DC H.n l):=λh l f=>by
  show(if H.n+h<H.n then _ else _)=_;rw[if_neg (by omega),show H.n+h - H.n=h by omega,f];rfl
 have k:∀h,h<H.n->s h=ρ h:=λh u=>by show(if h<H.n then ρ h else _)=_;rw[if_pos u]
 have d:∀h,H.n<=h->s h=(ρ2 (h - H.n)).map (DC H.n):=λh u=>by show(if h<H.n then ρ h else _)=_;rw[if_neg (by omega)]
 have J:∀h,H.n<=h->H.t.get h=none:=λh u=>by
  cases y:H.t.get h with
  |none=>rfl
  |some p=>exact absurd (R.lt (jI.2 ⟨p.1,y⟩)) (by omega)
 have X:∀h,h<H.n->(H.load n os).t.get h=H.t.get h:=λh u=>by
  show(QZ H.n H.t os).get h=_;rw[Mf,if_neg (by omega)]
 have gh:∀h p,H.n<=h->(H.load n os).t.get h=some p->∃x,(KD n os).t.get (h - H.n)=some x/\p=(H.n+x.1,Zz H.n x.2):=λh p u hp=>by
  have A:(QZ H.n H.t os).get h=some p:=hp;rw[Mf,if_pos u,J h u]at A;cases hk:Wq os (h - H.n)with
  |none=>rw[hk]at A;cases A
  |some x=>rw[hk]at A;cases A;exact⟨x,(GA os _).trans hk,rfl⟩
 have W:Nk w w':=M.ext.ext;have L:∀l:No,(gN.of w hb).mine l.b->w.heap.size<=l.b:=λl h=>by
  rcases h with h|h
  ·exact h
  ·exact h.elim
 have r:∀h o,h<H.n->(H.load n os).get h=some o->∃l,ρ h=some l/\w0.mine l.b/\Ba ρ w l o/\H.get h=some o:=λh o u y=>by
  obtain⟨v,N⟩:=jI.1 y;rw[X h u]at N;have z:=jI.2 ⟨v,N⟩;obtain⟨l,a,b,c⟩:=R.live h o z;exact⟨l,a,b,c,z⟩
 have m:∀h o,H.n<=h->(H.load n os).get h=some o->∃l O,ρ2 (h - H.n)=some l/\w.heap.size<=l.b/\Ba ρ2 w' l O/\o=Zz H.n O/\(KD n os).get (h - H.n)=some O:=λh o u y=>by
  obtain⟨v,N⟩:=jI.1 y;obtain⟨x,E,e⟩:=gh h _ u N;cases e;have z:(KD n os).get (h - H.n)=some x.2:=jI.2 ⟨x.1,E⟩;obtain⟨l,a,b,c⟩:=M.live _ _ z;exact⟨l,x.2,a,L l b,c,rfl,z⟩
 refine⟨s,G,⟨R.ext.trans W,λh o y=> ?_,λh B o U l l' V E f j F=> ?_,λh u=> ?_,λh u=> ?_,λh v l N f=> ?_,λi v e=>let ⟨l,a,b⟩:=R.env i v e;⟨l,G _ _ a,b⟩⟩,λg v y=>y.shift K⟩
 ·rcases zAu h H.n with q|q
  ·obtain⟨l,a,b,c,_⟩:=r h o q y;exact⟨l,by rw[k h q];exact a,b,c.move G (W.block _ c.lt)⟩
  ·obtain⟨l,O,a,b,c,rfl,_⟩:=m h o q y;exact⟨DC H.n l,by rw[d h q,a];rfl,.inl (zB4 R.ext.size b),c.shift K⟩
 ·rcases zAu h H.n with q|q<;>rcases zAu B H.n with I|I
  ·obtain⟨l1,C,_,_,P⟩:=r h o q V;obtain⟨T,D,_,_,Q⟩:=r B U I E;rw[k h q,C]at f;rw[k B I,D]at j;cases f;cases j;exact R.inj h B o U _ _ P Q C D F
  ·obtain⟨l1,C,_,c1,P⟩:=r h o q V;obtain⟨T,O,D,b2,_,rfl,Q⟩:=m B U I E;rw[k h q,C]at f;rw[d B I,D]at j;cases f;cases j;have:=c1.lt;simp only[DC]at F;omega
  ·obtain⟨l1,o1,C,b1,_,rfl,P⟩:=m h o q V;obtain⟨T,D,_,c2,Q⟩:=r B U I E;rw[d h q,C]at f;rw[k B I,D]at j;cases f;cases j;have:=c2.lt;simp only[DC]at F;omega
  ·obtain⟨l1,o1,C,b1,_,rfl,P⟩:=m h o q V;obtain⟨T,O,D,b2,_,rfl,Q⟩:=m B U I E;rw[d h q,C]at f;rw[d B I,D]at j;cases f;cases j;have:=M.inj _ _ _ _ _ _ P Q C D F;omega
 ·have aa:H.n+n<=h:=u;rw[d h (by omega),M.fresh (h - H.n) (by show n<=_;omega)];rfl
 ·have aa:h<H.n+n:=u;rcases zAu h H.n with q|q
  ·obtain⟨l,f⟩:=R.dense h q;exact⟨l,by rw[k h q];exact f⟩
  ·obtain⟨l,f⟩:=M.dense (h - H.n) (by show _<n;omega);exact⟨DC H.n l,by rw[d h q,f];rfl⟩
 ·obtain⟨o,S⟩:=uD.1 N;rcases zAu h H.n with q|q
  ·rw[X h q]at S;rw[k h q]at f;obtain⟨lv,a,b,c⟩:=R.vers h v l (uD.2 ⟨o,S⟩) f;have y:=jI.2 ⟨v,S⟩;obtain⟨l',j,_,ck⟩:=R.live h o y;rw[f]at j;cases j;refine⟨lv,G _ _ a,by rw[W.block _ ck.lt];exact b,?_⟩
   obtain⟨v2,ad⟩:=jI.1 c;exact jI.2 ⟨v2,by rw[X h q];exact ad⟩
  ·obtain⟨x,E,e⟩:=gh h _ q S;cases e;rw[d h q]at f;obtain⟨T,ab,rfl⟩:=Option.map_eq_some_iff.1 f;obtain⟨lv,a,b,c⟩:=M.vers (h - H.n) x.1 T (uD.2 ⟨x.2,E⟩) ab;refine⟨DC H.n lv,K _ _ a,b,?_⟩
   have h3:(KD n os).get (h - H.n)=some x.2:=jI.2 ⟨x.1,E⟩;rw[c]at h3;have h4:=Option.some.inj h3;exact jI.2 ⟨_,by rw[S,<-h4];rfl⟩
end
theorem XM {a b:Nat×Nat} (h:RZ a b=true):a=b:=by
 obtain⟨f,d⟩:=a;obtain⟨g,e⟩:=b;unfold RZ at h;cases c:Nat.beq d e with
 |false=>simp[c]at h
 |true=>
  simp only[c,cond_true]at h;rw[zA9 h,zA9 c]
theorem YM {c:fJ} {n l:Nat} {x:ByteArray} (a:n=mS (bY x)) (b:l=(bY x).length):Rl c (.str n l) (.string x):=by
 rw[a,b];exact .str x
def isS (a:List GV) (p:Nat×Nat):Bool:=List.casesOn (motive:=λ_=>Bool) a false λu r=>List.casesOn (motive:=λ_=>Bool) r (Option.casesOn (motive:=λ_=>Bool) (GV.asStr u) false λs=>RZ s p) λ_ _=>false
theorem adL {b:List GV} {p:Nat×Nat} (h:isS b p=true):b=[.str p.1 p.2]:=by
 cases b with
 |nil=>cases h
 | cons u r =>
  cases r with
  |cons _ _=>cases h
  | nil =>
   cases a:GV.asStr u with
   |none=>simp[isS,a]at h
   |some s=>
    have:RZ s p=true:=by simpa [isS,a]using h
    rw[qO a,XM this]
noncomputable section
def YC (H:GH) (a:List Nat):Option OL:=List.rec (motive:=λ_=>Option OL) (some []) (λh _ b=>ob (H.t.get h) λp=>ob b λr=>some ((h,p.1,p.2)::r)) a
theorem JL {H:GH}:∀{c:List Nat} {b:OL},YC H c=some b->∀x∈b,H.t.get x.1=some x.2
 | [],b,h,x,a=>by cases h;cases a
 |h0::c,b,h,x,a=>by
  obtain⟨p,d,h⟩:=aF.1 (show ob (H.t.get h0) (λp=>ob (YC H c) λr=>some ((h0,p.1,p.2)::r))=some b from h);obtain⟨r,e,h⟩:=aF.1 h;cases h;rcases zAn.1 a with rfl|a
  ·exact d
  ·exact JL e x a
def Ys (T:Iw) (G:GP) (a f:Nat) (d:List GV) (b:List Nat):Option (GV×Nat×OL):=ob (Kf T G a f d H0) λr=>ob (YC r.2 b) λc=>some (r.1,r.2.n,c)
def shK {R:Type} (k:Nat) (v:GV) (f:GV->R):R:=GV.casesOn (motive_1:=λ_=>R) v (λa b=>f (.int a b)) (λb=>f (.bool b)) (λa b=>f (.str a b)) (λh o=>sn (Nat.add k h) λh=>f (.ptr h o)) (f .pnil) (λh o l s=>sn (Nat.add k h) λh=>f (.sl h o l s)) (f .snil) (λh=>sn (Nat.add k h) λh=>f (.map h)) (λa b c=>f (Jb k (.fn a b c))) (f .fnil) (f .inil) (λd=>f (Jb k (.agg d))) (λe=>f (Jb k (.tup e))) (f .un) (f .bad) (λh=>sn (Nat.add k h) λh=>f (.opn h))
theorem YZ {R:Type} (k:Nat) (v:GV) (f:GV->R):shK k v f=f (Jb k v):=by
 cases v<;>simp[shK,zG,Jb]
def aeg {R:Type} (k:Nat) (l:List GV):(List GV->R)->R:=List.rec (motive:=λ_=>(List GV->R)->R) (λf=>f []) (λx _ a f=>shK k x λy=>a λr=>f (y::r)) l
theorem UL {R:Type} (k:Nat):∀(l:List GV) (f:List GV->R),aeg k l f=f (Wr k l)
 | [],f=>rfl
 |x::l,f=>by
  show shK k x (λy=>aeg k l λr=>f (y::r))=_;rw[YZ,UL k l];rfl
def aeh {R:Type} (k:Nat) (o:GO) (f:GO->R):R:=GO.casesOn (motive:=λ_=>R) o (λa=>aeg k a λa=>f (.cells a)) (λb=>f (Zz k (.mp b)))
theorem abD {R:Type} (k:Nat) (o:GO) (f:GO->R):aeh k o f=f (Zz k o):=by
 cases o with
 |cells a=>exact UL k a _
 |mp b=>rfl
def adW {R:Type} (k:Nat) (t:Tr (Nat×GO)) (b:OL):(Tr (Nat×GO)->R)->R:=List.rec (motive:=λ_=>(Tr (Nat×GO)->R)->R) (λf=>f t) (λx _ a f=>a λt=>sn (Nat.add k x.2.1) λv=>sn (Nat.add k x.1) λh=>aeh k x.2.2 λo=>t.setK (some (v,o)) h f) b
theorem UE {R:Type} (k:Nat) (t:Tr (Nat×GO)):∀(a:OL) (f:Tr (Nat×GO)->R),adW k t a f=f (QZ k t a)
 | [],f=>rfl
 |x::a,f=>by
  show adW k t a (λt=>sn (Nat.add k x.2.1) λv=>sn (Nat.add k x.1) λh=>aeh k x.2.2 λo=>t.setK (some (v,o)) h f)=_;rw[UE k t a];simp only[zG,abD,Fl];rfl
def Uy (g:GV) (n:Nat) (a:OL) (H:GH):Option (GV×GH):=sn H.n λk=>shK k g λg=>adW k H.t a λt=>sn (Nat.add k n) λm=>some (g,⟨m,t⟩)
theorem Yr (g:GV) (n:Nat) (a:OL) (H:GH):Uy g n a H=some (Jb H.n g,H.load n a):=by
 unfold Uy;simp only[zG,YZ,UE];rfl
theorem abm {P:Program} {T:Iw} {G:GP} {gs gs2:CE} (j:gs2.obs=gs.obs) (d:gs2.env=[]) (M:Lt T G.tab) (L:∀m:gN gs2,Wn P G T.fns m) {a f n:Nat} {y:List GV} {z:List V0} {O:List Nat} {g:GV} {c:OL} (i:Ys T G a f y O=some (g,n,c)) (C:bB P f)
  {m:gN gs} {w:World} {F:fJ} {H o:GH} {B:GV} (Q:rQ (λ_=>none) y z) (h:Uy g n c H=some (B,o)) (R:iO m F H w):oT P m F f z w B o:=by
 rw[Yr]at h;cases h;obtain⟨r,D,i⟩:=aF.1 (show ob (Kf T G a f y H0) _=some (g,n,c)from i);obtain⟨S,s,i⟩:=aF.1 i;cases i;rw[Gm M]at D;have b:Kb gs2 w λ_=>False:=λp t=>⟨(R.glo p (j▸t)).1,id⟩
 rcases IA L (H':=r.2) (g:=r.1) D (iO.start (gN.of w b) d) Q with⟨v,E,l,k,_⟩|⟨_,N⟩
 ·have:=C z.toArray w;rw[show(gN.of w b).w=w from rfl,this]at k;cases k
 ·refine .inr ⟨C _ w,N.mono ?_⟩;rintro e E ⟨v,A,rfl,_,I,u⟩;have J:iO (gN.of w b) A (KD r.2.n c) E:=I.sub Z λh p t=>by
   have:Wq c h=some p:=(GA c h).symm.trans t;exact JL s _ (Pb this)
  obtain⟨l,q,K,x⟩:=R.join J;exact⟨v,l,rfl,q,K,x _ _ u⟩
theorem VR {P:Program} {T:Iw} {G:GP} {gs:CE} (y:Lt T G.tab) (x:∀H:gN gs,Wn P G T.fns H) {a f n:Nat} {m:List GV} {o:List V0} {D:List Nat} {g:GV} {j:OL} (d:Ys T G a f m D=some (g,n,j)) (z:bB P f)
  (E:rQ (λ_=>none) m o) (B:gs.env=[]) (b:gN gs):Calls P f o.toArray b.w λe q=>∃v c,e = .returned v/\iO b c (KD n j) q/\Rl c g v:=by
 obtain⟨r,t,d⟩:=aF.1 (show ob (Kf T G a f m H0) _=some (g,n,j)from d);obtain⟨F,k,d⟩:=aF.1 d;cases d;rw[Gm y]at t;rcases IA x (H':=r.2) (g:=r.1) t (iO.start b B) E with⟨v,q,c,i,_⟩|⟨_,A⟩
 ·have:=z o.toArray b.w;rw[this]at i;cases i
 ·refine A.mono ?_;rintro e q ⟨v,s,rfl,_,u,l⟩;exact⟨v,s,rfl,u.sub Z λh p C=>by
   have:Wq j h=some p:=(GA j h).symm.trans C;exact JL k _ (Pb this),l⟩
end
theorem Td {P:Program} {gs:Nat->CE} {L:List bI} (D:∀w S,(∀h∈L,h.p w S)->∃T,Kb (gs T) w λ_=>False) {f n:Nat} {z:List V0} {g:GV} {y:OL}
  (h:∀T (b:gN (gs T)),Calls P f z.toArray b.w λe s=>∃v c,e = .returned v/\iO b c (KD n y) s/\Rl c g v) {A:Type} {o:A->V0} {LO:A->List bI}
  (d:∀T (b:gN (gs T)) (B:fJ) (w:World) (V:V0),(∀k,b.mine k->b.w.heap.size<=k)->iO b B (KD n y) w->Rl B g V->∃x:A,V=o x/\∀q∈LO x,q.p w (λk=>b.w.heap.size<=k)):
  bE P f z.toArray L o (λ_ l=>l) (λx l=>LO x++l):=by
 intro t C H;obtain⟨T,u⟩:=D t C H;refine(h T (.of t u)).mono ?_;rintro e s ⟨v,c,rfl,R,G⟩;obtain⟨x,rfl,F⟩:=d T (.of t u) c s v (λk r=>r.elim id False.elim) R G;refine⟨x,rfl,R.ext,λ_ _=>False,⟨λi m E=>by simp at E,λi k h=>h.elim,λi j k h=>h.elim⟩,λq a=> ?_⟩
 have a:q∈LO x++[]:=a;rw[List.append_nil]at a;exact bI.wide (F q a) (λk r=>⟨.inr (.inl r),λi h=>h.elim⟩)
noncomputable def KB (s:ByteArray):Nat×Nat:=(mS (bY s),(bY s).length)
theorem QA {a b:ByteArray} (h:KB a=KB b):a=b:=by
 have c:=XL a b;unfold KB at h;rw[h]at c;have e:RZ (mS (bY b),(bY b).length) (mS (bY b),(bY b).length)=true:=by simp[RZ]
 rw[e]at c;have d:a.toList=b.toList:=eq_of_beq c.symm;rw[Lib.toList_data,Lib.toList_data]at d;obtain⟨⟨x⟩⟩:=a;obtain⟨⟨y⟩⟩:=b;simp only at d;rw[d]
noncomputable def adv (a:List GV):Option (Nat×Nat):=List.casesOn (motive:=λ_=>Option (Nat×Nat)) a none λc r=>List.casesOn (motive:=λ_=>Option (Nat×Nat)) r c.asStr λ_ _=>none
abbrev adZ:eK ByteArray:=⟨1,Nat.one_pos,λ_ _ a x=>a=[.string x],λh=>by simp[h],λh _=>h⟩
theorem kD.str {S:Nat->Prop} {g:fJ} {w:World}:kD S g w adv adZ KB:=λgs f y a h _=>by
 cases gs with
 |nil=>cases h
 |cons c gs=>
 cases gs with
 |cons _ _=>cases h
 |nil=>
 have h:c.asStr=some y:=h;obtain⟨v,f,rfl,b,a⟩:=a.of_cons;rw[a.of_nil];rw[qO h]at b;obtain⟨x,rfl,d,e⟩:=b.str_inv;exact⟨x,by unfold KB;rw[<-d,<-e],rfl⟩
theorem abG {c:fJ} {V:V0} {n l:Nat} {s:ByteArray} (h:Rl c (.str n l) V) (e:KB s=(n,l)):V = .string s:=by
 obtain⟨x,rfl,a,b⟩:=h.str_inv;have:KB x=KB s:=by rw[e];unfold KB;rw[<-a,<-b]
 rw[QA this]
theorem LQ {c:Type}:∀a b:c,id a=id b->a=b:=λ_ _ h=>h
theorem Gt {c d e i:Type} {f:c->e} {g:d->i} (j:∀a b,f a=f b->a=b) (k:∀a b,g a=g b->a=b):∀a b:c×d,(λz:c×d=>(f z.1,g z.2)) a=(λz:c×d=>(f z.1,g z.2)) b->a=b:=λa b h=>by
 obtain⟨l,m⟩:=a;obtain⟨n,o⟩:=b;simp only[Prod.mk.injEq]at h;rw[j _ _ h.1,k _ _ h.2]
theorem LW {g i:Type} {f:g->i} (e:∀a b,f a=f b->a=b):∀{c d:List g},c.map f=d.map f->c=d
 | [],[],_=>rfl
 | [],_::_,h=>by simp at h
 |_::_,[],h=>by simp at h
 |a::c,b::d,h=>by
  simp only[List.map_cons,List.cons.injEq]at h;rw[e _ _ h.1,LW e h.2]
end Go.Gx
section
set_option maxRecDepth 100000
namespace Go.Gx
open Go Go.Sx Go.Proofs Go.Proofs.YtflciafboapaaaaGreat
def OW (l:List Nat):List GV:=l.map λn=> .int .i64 (.ofNat n)
abbrev adH:Nat:=6706143830449764899556809608818904919804074884937111603718476495539622089622860971527792587791047894922729163212717263328395231852300855536488424978955807703755604513825873373095632290149847090083112304426652546340939400726262280257803792487332445892473582856512649637013408585975292850644760247287299230258062944610265801223788397479914840704983105145953743025358843726328641031619437354017789814719882883570583131354112070717477863523377784965938515931160728579383844655360852857429048595849656685311997067516701048769715945338084683118784715135226216982869351630641616464718832441949492048937096570154901286325463543707328254906190863546417377904
def mu0:List GV:=[.str adH 270]
def mg0:GV:=(.agg [(.str 7562850 3),(.sl 1176 0 2 6),(.sl 2078 0 2 3)])
def VU:OL:=[(1176,1176,.cells [(.str 100 1),(.int .i64 (.ofNat 1)),(.int .i64 (.ofNat 0)),(.int .i64 (.ofNat 0)),(.int .i64 (.ofNat 1)),(.int .i64 (.ofNat 0)),(.str 112 1),(.int .i64 (.ofNat 3)),(.int .i64 (.ofNat 0)),(.int .i64 (.ofNat 0)),(.int .i64 (.ofNat 0)),(.int .i64 (.ofNat 0))]),
 (1300,1300,.cells (OW [41,0,10,0,42,0,36,0,5,0,1,0,36,0,5,1,4,0])),
 (1326,1326,.cells [(.int .i64 (.ofNat 1)),(.int .i64 (.ofNat 0))]),
 (1359,1359,.cells [(.int .i64 (.ofNat 4)),(.int .i64 (.ofNat 0))]),
 (1367,1367,.cells [(.int .i64 (.ofNat 0)),(.sl 1326 0 1 2),(.int .i64 (.ofNat 1)),(.sl 1359 0 1 2)]),
 (1755,1755,.cells (OW [41,0,19,0,10,0,42,0,36,0,5,0,43,0,37,0,24,0,12,0,6,0,33,0,24,0,12,0,1,1,6,0,36,0,5,1,23,0,35,0,12,0,24,0,12,0])),
 (1936,1936,.cells (OW [43,0,37,0,24,0,12,0,6,0,33,0,24,0,12,0,1,1,6,0])),
 (2062,2062,.cells (OW [23,0,35,0,12,0,24,0,12,0])),
 (2070,2070,.cells [(.int .i64 (.ofNat 0)),(.sl 1936 0 10 2),(.int .i64 (.ofNat 1)),(.sl 2062 0 5 2)]),
 (2078,2078,.cells [(.str 7368564 3),(.sl 1300 0 9 2),(.sl 1367 0 2 2),(.str 7827308 3),(.sl 1755 0 23 2),(.sl 2070 0 2 2)])]
set_option maxHeartbeats 4000000 in
theorem me0:Ys KE gp 4000 9 mu0 [1176,1300,1326,1359,1367,1755,1936,2062,2070,2078]=some (mg0,3136,VU):=by kernel_rfl
noncomputable def SQ (f:Nat) (a:List GV) (H:GH):Option (GV×GH):=bif Nat.beq f 9 then(bif isS a (adH,270)then Uy mg0 3136 VU H else XZ f a H)else XZ f a H
noncomputable def afa:GP:=⟨AY,gp.cat,SQ,gp.exn⟩
theorem VF {T:Nat} {k:gN (gl T)} {w:World} {e:fJ} {H i:GH} {g:GV} {d:List GV} {j:fL} {f:Nat} (h:SQ f d H=some (g,i)) (R:iO k e H w) (a:rQ e d j):oT Tryz.prog k e f j w g i:=by
 unfold SQ at h;cases b:Nat.beq f 9 with
 |false=>rw[b]at h;exact OV h R a
 | true =>
  rw[b]at h;cases c:isS d (adH,270)with
  |false=>rw[c]at h;exact OV h R a
  |true=>
   rw[c]at h;rw[zA9 b];rw[adL c]at a;obtain⟨V,rfl,n⟩:=a.one;obtain⟨x,rfl,l,m⟩:=n.str_inv;exact abm (gs:=gl T) (gs2:=gl T) Z Z IZ gok me0 Tryz.call9 (rQ.cons (YM l m) .nil) h R
theorem aeZ {T:Nat} (a:gN (gl T)):Wn Tryz.prog afa KE.fns a:=⟨(gok a).tab,(gok a).mixed,(gok a).fns,λh d w c R b=>VF h R b,(gok a).exn,(gok a).cat⟩
noncomputable abbrev gp2:GP:=afa
theorem ahg {T:Nat} (a:gN (gl T)):Wn Tryz.prog gp2 KE.fns a:=aeZ a
end Go.Gx
end
namespace Go.Gx
open Go Go.Sx Go.RowKit
structure Hd (n:Nat) (os:OL) (ρ:fJ) (w:World) (S:Nat->Prop):Prop where
 live:∀h o,(KD n os).get h=some o->∃l,ρ h=some l/\S l.b/\Ba ρ w l o
 inj:∀h h' o o' l l',(KD n os).get h=some o->(KD n os).get h'=some o'->ρ h=some l->ρ h'=some l'->l.b=l'.b->h=h'
 fresh:∀h,n<=h->ρ h=none
 dense:∀h,h<n->∃l,ρ h=some l
 vers:∀h v l,(KD n os).ver h=some v->ρ h=some l->∃lv,ρ v=some lv/\w.heap[l.b]? = some lv.x/\(KD n os).get h=some lv.o
theorem Hd.mono {n:Nat} {p:OL} {f:fJ} {w w':World} {S g:Nat->Prop} (H:Hd n p f w S) (h:∀k,S k->k<w.heap.size->g k/\w'.heap[k]? = w.heap[k]?):Hd n p f w' g:=by
 refine⟨λk o s=> ?_,H.inj,H.fresh,H.dense,λk v l m j=> ?_⟩
 ·obtain⟨l,a,b,c⟩:=H.live k o s;obtain⟨d,e⟩:=h _ b c.lt;exact⟨l,a,d,c.move (fJ.le_refl f) e⟩
 ·obtain⟨u,a,b,c⟩:=H.vers k v l m j;obtain⟨o,t⟩:=uD.1 m;obtain⟨x,i,q,r⟩:=H.live k o (jI.2 ⟨v,t⟩);rw[j]at i;cases i;exact⟨u,a,by rw[(h _ q r.lt).2];exact b,c⟩
theorem iO.hd {gs:CE} {b:gN gs} {n:Nat} {d:OL} {ρ:fJ} {w:World} {S:Nat->Prop} (R:iO b ρ (KD n d) w) (e:∀k,b.mine k->S k):Hd n d ρ w S:=
 ⟨λh o f=>let ⟨l,a,b,c⟩:=R.live h o f;⟨l,a,e _ b,c⟩,R.inj,R.fresh,R.dense,R.vers⟩
def Wx (n:Nat) (b:OL) (g:GV) (V:V0):bI where
 p w S:=∃a,Hd n b a w S/\Rl a g V
 mono:=fun⟨a,h,r⟩ k=>⟨a,h.mono k,r⟩
def Hd.O (n:Nat) (a:OL) (c:fJ) (k:Nat):Prop:=∃h o l,(KD n a).get h=some o/\c h=some l/\l.b=k
def Hd.base (n:Nat) (a:OL) (ρ:fJ) (w:World):gN noG:=⟨w,Hd.O n a ρ,λ_ h=>absurd h List.not_mem_nil⟩
theorem Hd.rel {n:Nat} {b:OL} {ρ:fJ} {w:World} {S:Nat->Prop} (H:Hd n b ρ w S):iO (Hd.base n b ρ w) ρ (KD n b) w:=
 ⟨ED.refl w,λh o d=>let ⟨l,a,_,c⟩:=H.live h o d;⟨l,a,.inr ⟨h,o,l,d,a,rfl⟩,c⟩,H.inj,H.fresh,H.dense,H.vers,λi v e=>by simp[Hd.base,noG]at e⟩
noncomputable def HG (H:GH) (b:OL):Bool:=List.rec (motive:=λ_=>Bool) true (λx _ a=>Option.casesOn (motive:=λ_=>Bool) (H.ver x.1) false λv=>bif Nat.beq v x.2.1 then a else false) b
theorem Rk {H:GH}:∀{a:OL},HG H a=true->∀x∈a,H.ver x.1=some x.2.1
 | [],_,x,b=>by cases b
 | y :: a, h, x, b => by
  have h:Option.casesOn (motive:=λ_=>Bool) (H.ver y.1) false (λv=>bif Nat.beq v y.2.1 then HG H a else false)=true:=h;cases c:H.ver y.1 with
  |none=>rw[c]at h;cases h
  | some v =>
   rw[c]at h;obtain⟨d,f⟩:=cA.1 (show(bif Nat.beq v y.2.1 then(some (HG H a))else none)=some true by
    have h:(bif Nat.beq v y.2.1 then HG H a else false)=true:=h;cases e:Nat.beq v y.2.1<;>rw[e]at h<;>first|cases h|(show some (HG H a)=some true;rw[show HG H a=true from h]))
   rcases zAn.1 b with rfl|b
   ·rw[c,zA9 d]
   ·exact Rk (Option.some.inj f) x b
noncomputable def okV (a:OL) (r:OR):Bool:=Option.casesOn (motive:=λ_=>Bool) r false λr=>Option.casesOn (motive:=λ_=>Bool) r.1.asB false λb=>bif b then HG r.2 a else false
theorem QV {d:OL} {r:OR} (h:okV d r=true):∃a,r=some (.bool true,a)/\HG a d=true:=by
 cases r with
 |none=>cases h
 | some r =>
  obtain⟨g,a⟩:=r;have h:Option.casesOn (motive:=λ_=>Bool) g.asB false (λb=>bif b then HG a d else false)=true:=h;cases c:g.asB with
  |none=>rw[c]at h;cases h
  |some b=>
   rw[c]at h;cases b with
   |false=>cases h
   |true=>exact⟨a,by rw[Ej c],h⟩
theorem NH {P:Program} {G:GP} {x:FT} (F:∀T:gN noG,Wn P G x T) {fuel f n:Nat} {d:OL} {g:GV} {V:V0} (H:bB P f) (h:∃r,Ue G x fuel f [g] (KD n d)=some (.bool true,r)/\HG r d=true) {w:World} {S:Nat->Prop} (Q:(Wx n d g V).p w S):
  Calls P f #[V] w λe u=>e = .returned (.bool true)/\Nk w u:=by
 obtain⟨U,y,M⟩:=Q;obtain⟨r,D,E⟩:=h;rcases IA F D y.rel (.cons M .nil)with⟨v,u,W,m,_⟩|⟨_,I⟩
 ·have:=H #[V] w;rw[this]at m;cases m
 ·refine I.mono ?_;rintro e u ⟨v,X,rfl,j,c,N⟩;refine⟨by rw[N.bool_inv],c.ext.os,c.ext.tape,c.ext.output,c.ext.size,λk K=> ?_⟩
  by_cases A:Hd.O n d U k
  ·obtain⟨i,o,l,J,z,rfl⟩:=A;obtain⟨t,q⟩:=jI.1 J;have L:(i,t,o)∈d:=Pb ((GA d i).symm.trans q);obtain⟨R,a,b,_⟩:=y.vers i t l (uD.2 ⟨o,q⟩) z;obtain⟨s,B,C,_⟩:=c.vers i t l (Rk E _ L) (j _ _ z);have:R=s:=by have:=j _ _ a;rw[B]at this;exact(Option.some.inj this).symm
   subst this;exact C.trans b.symm
  ·exact c.ext.block k K A
end Go.Gx
namespace Go.Proofs.YtflciafboapaaaaGreat
open Go Go.Sx Go.Gx
set_option maxRecDepth 100000
abbrev zB:=ByteArray×(V0×fI)×(V0×List (Int×(V0×fI)))
def sO (z:zB):fI×List (Int×fI):=(z.2.1.2,z.2.2.2.map λs=>(s.1,s.2.2))
def If:ByteArray:=(ByteArray.mk #[112,114,111,103,114,97,109,32,98,102,115,59,10,118,97,114,32,100,32,58,32,48,32,46,46,32,110,59,10,118,97,114,32,112,32,58,32,112,111,114,116,59,10,114,117,108,101,32,116,111,112,58,32,114,111,111,116,32,38,38,32,40,100,32,33,61,32,48,32,124,124,32,112,32,33,61,32,110,111,110,101,41,32,45,62,32,100,32,58,61,32,48,44,32,112,32,58,61,32,110,111,110,101,59,10,114,117,108,101,32,108,111,119,58,32,33,114,111,111,116,32,38,38,32,40,100,32,33,61,32,40,109,105,110,40,113,46,100,41,32,60,32,110,32,63,32,109,105,110,40,113,46,100,41,32,43,32,49,32,58,32,110,41,32,124,124,32,112,32,33,61,32,102,105,114,115,116,40,113,46,100,32,61,61,32,109,105,110,40,113,46,100,41,41,41,10,32,32,45,62,32,100,32,58,61,32,40,109,105,110,40,113,46,100,41,32,60,32,110,32,63,32,109,105,110,40,113,46,100,41,32,43,32,49,32,58,32,110,41,44,32,112,32,58,61,32,102,105,114,115,116,40,113,46,100,32,61,61,32,109,105,110,40,113,46,100,41,41,59,10])
def JN:AX:=[((ByteArray.mk #[100]),(1:Int),(0:Int),(0:Int),(1:Int),(0:Int)),((ByteArray.mk #[112]),(3:Int),(0:Int),(0:Int),(0:Int),(0:Int))]
def Hj:Rz:=[([(41,0),(10,0),(42,0),(36,0),(5,0),(1,0),(36,0),(5,1),(4,0)],[(0,[(1,0)]),(1,[(4,0)])]),([(41,0),(19,0),(10,0),(42,0),(36,0),(5,0),(43,0),(37,0),(24,0),(12,0),(6,0),(33,0),(24,0),(12,0),(1,1),(6,0),(36,0),(5,1),(23,0),(35,0),(12,0),(24,0),(12,0)],[(0,[(43,0),(37,0),(24,0),(12,0),(6,0),(33,0),(24,0),(12,0),(1,1),(6,0)]),(1,[(23,0),(35,0),(12,0),(24,0),(12,0)])])]
def acf:List ((Nat×Nat)×fI×List (Int×fI)):=[((7368564,3),[(41,0),(10,0),(42,0),(36,0),(5,0),(1,0),(36,0),(5,1),(4,0)],[(0,[(1,0)]),(1,[(4,0)])]),((7827308,3),[(41,0),(19,0),(10,0),(42,0),(36,0),(5,0),(43,0),(37,0),(24,0),(12,0),(6,0),(33,0),(24,0),(12,0),(1,1),(6,0),(36,0),(5,1),(23,0),(35,0),(12,0),(24,0),(12,0)],[(0,[(43,0),(37,0),(24,0),(12,0),(6,0),(33,0),(24,0),(12,0),(1,1),(6,0)]),(1,[(23,0),(35,0),(12,0),(24,0),(12,0)])])]
def PF (V:V0):bI:=⟨λw S=>(Wx 3136 VU mg0 V).p w S,λ{w w' S S'} h k=>by
 rcases h with h
 ·exact((Wx 3136 VU mg0 V).mono h k)⟩
noncomputable def W_ {R:Type} (D:Rz) (k:List zB->Option R):Option R:=open Classical in if h:∃r,∀z:List zB,z.map sO=D->k z=some r then some (Classical.choose h)else none
theorem Vp {R:Type} {D:Rz} {k:List zB->Option R} {r:R} (h:W_ D k=some r) (z:List zB) (a:z.map sO=D):k z=some r:=by
 unfold W_ at h;split at h
 ·rename_i e;rw[<-Option.some.inj h];exact Classical.choose_spec e z a
 cases h
theorem ZS {R:Type} {D:Rz} {k:List zB->Option R} {r:R} (h:∀z:List zB,z.map sO=D->k z=some r):W_ D k=some r:=by
 have e:∃r,∀z:List zB,z.map sO=D->k z=some r:=⟨r,h⟩
 unfold W_;rw[dif_pos e];let z:List zB:=D.map λx=>(ByteArray.empty,(undef,x.1),(undef,x.2.map λs=>(s.1,(undef,s.2))))
 have c:z.map sO=D:=by
  show(D.map _).map sO=D;rw[List.map_map]
  conv=>rhs;rw[<-List.map_id D]
  refine List.map_congr_left λx _=>?_;obtain⟨a,b⟩:=x;simp[sO,Function.comp_def]
 rw[<-Classical.choose_spec e z c,h z c]
def sW (a:Nat) (b:ByteArray):Option Zh:=if b=If then some ((ByteArray.mk #[98,102,115]),JN,Hj)else none
theorem abX:bB Tryz.prog 9:=Tryz.call9
theorem TX:bB Tryz.prog 168:=Tryz.call168
theorem QY:KB If=(6706143830449764899556809608818904919804074884937111603718476495539622089622860971527792587791047894922729163212717263328395231852300855536488424978955807703755604513825873373095632290149847090083112304426652546340939400726262280257803792487332445892473582856512649637013408585975292850644760247287299230258062944610265801223788397479914840704983105145953743025358843726328641031619437354017789814719882883570583131354112070717477863523377784965938515931160728579383844655360852857429048595849656685311997067516701048769715945338084683118784715135226216982869351630641616464718832441949492048937096570154901286325463543707328254906190863546417377904,270):=by kernel_rfl
theorem YD:KB (ByteArray.mk #[98,102,115])=(7562850,3):=by kernel_rfl
theorem YG:SI (KD 3136 VU) 6 (dP 1 adv (dP 1 (dI .i64) (dP 1 (dI .i64) (dP 1 (dI .i64) (dP 1 (dI .i64) (dI .i64)))))) (.sl 1176 0 2 6)=some (JN.map λz=>(KB z.1,z.2.1,z.2.2.1,z.2.2.2.1,z.2.2.2.2.1,z.2.2.2.2.2)):=by kernel_rfl
theorem VZ:SI (KD 3136 VU) 3 (dP 1 adv (dP 1 (dS (KD 3136 VU) 2 (dP 1 (dI .i64) (dI .i64))) (dS (KD 3136 VU) 2 (dP 1 (dI .i64) (dS (KD 3136 VU) 2 (dP 1 (dI .i64) (dI .i64))))))) (.sl 2078 0 2 3)=some acf:=by kernel_rfl
theorem abr:acf.map (λy=>(y.2.1,y.2.2))=Hj:=by kernel_rfl
theorem YE (r:Zh) (h:some ((ByteArray.mk #[98,102,115]),JN,Hj)=some r):bE Tryz.prog 9 #[vS If] [] (λx:V0×V0×{z:List zB // z.map sO=r.2.2}=>Value.agg #[vS r.1,x.1,x.2.1]) (λx l=>l) (λx l=>Sl aE x.1 r.2.1::Sl aD x.2.1 x.2.2.1::PF (Value.agg #[vS r.1,x.1,x.2.1])::l):=by
 cases h;refine Td (gs:=gl) (LO:=λx:V0×V0×{z:List zB // z.map sO=Hj}=>[Sl aE x.1 JN,Sl aD x.2.1 x.2.2.1,PF (Value.agg #[vS (ByteArray.mk #[98,102,115]),x.1,x.2.1])]) X_ (λT b=>VR IZ gok me0 abX (.cons (YM (x:=If) (congrArg Prod.fst QY).symm (congrArg Prod.snd QY).symm) .nil) Z b) ?_;intro T b B w V a R g;have y:=g;obtain⟨f,rfl,c,_⟩:=g.agg_inv;obtain⟨C,f,rfl,m,c⟩:=c.of_cons;obtain⟨j,f,rfl,n,c⟩:=c.of_cons;obtain⟨k,rfl,o⟩:=c.one;obtain rfl:=abG m YD;obtain⟨A,v,s⟩:=ID R a (kD.pair kD.str (kD.pair (kD.int .i64) (kD.pair (kD.int .i64) (kD.pair (kD.int .i64) (kD.pair (kD.int .i64) (kD.int .i64)))))) n YG;have e:A=JN:=LW (Gt (λ_ _=>QA) (Gt LQ (Gt LQ (Gt LQ (Gt LQ LQ))))) v;subst e;obtain⟨i,u,t⟩:=ID (r:=aD) R a (kD.pair kD.str (kD.pair (kD.sl R a (kD.pair (kD.int .i64) (kD.int .i64))) (kD.sl R a (kD.pair (kD.int .i64) (kD.sl R a (kD.pair (kD.int .i64) (kD.int .i64))))))) o VZ;have d:i.map sO=Hj:=by
  rw[<-abr,<-u,List.map_map];refine List.map_congr_left λx _=>?_;simp[sO,Function.comp_def]
 exact⟨(j,k,⟨i,d⟩),rfl,List.forall_mem_cons.2 ⟨s,List.forall_mem_cons.2 ⟨t,List.forall_mem_cons.2 ⟨(⟨B,iO.hd R a,y⟩),λq p=>absurd p List.not_mem_nil⟩⟩⟩⟩
theorem Zv:okV VU (Kf KE gp0 4000 168 [mg0] (KD 3136 VU))=true:=by kernel_rfl
theorem KN (a:Nat) {b:ByteArray} (r:Zh) (h:sW a b=some r):bE Tryz.prog 9 #[vS b] [] (λx:V0×V0×{z:List zB // z.map sO=r.2.2}=>Value.agg #[vS r.1,x.1,x.2.1]) (λx l=>l) (λx l=>Sl aE x.1 r.2.1::Sl aD x.2.1 x.2.2.1::PF (Value.agg #[vS r.1,x.1,x.2.1])::l):=by
 unfold sW at h;by_cases c:b=If
 ·subst c;exact YE r ((if_pos Z).symm.trans h)
 rw[if_neg c]at h;cases h
theorem YF (f:Nat):sW f If=some ((ByteArray.mk #[98,102,115]),JN,Hj):=by
 unfold sW;exact if_pos Z
theorem TY:bB Tryz.prog 169:=Tryz.call169
theorem Wc:okV VU (Kf KE gp0 4000 169 [mg0] (KD 3136 VU))=true:=by kernel_rfl
def Ep (fuel:Nat) (a:ByteArray×List (ByteArray×Int×Int×Int×Int×Int)×List (zB)):Option Bool:=some true
theorem MZ (a:Nat) {b:ByteArray×List (ByteArray×Int×Int×Int×Int×Int)×List (zB)} (d f:V0) (r:Bool) (h:Ep a b=some r):
  bE Tryz.prog 169 #[Value.agg #[vS b.1,d,f]] [Sl aE d b.2.1,Sl aD f b.2.2,PF (Value.agg #[vS b.1,d,f])] (λx:Unit=>vB (r)) (λx l=>l) (λ_ l=>l):=by
 cases h;intro w S z;have g:Calls Tryz.prog 169 #[Value.agg #[vS b.1,d,f]] w λe o=>e = .returned (.bool true)/\Nk w o:=by
  rcases z _ (zA0 (i:=2) rfl)with v
  ·refine NH (fuel:=4000) aeX TY ?_ v;obtain⟨p,n,s⟩:=QV Wc;rw[Gm (G:=gp0) IZ]at n;exact⟨p,n,s⟩
 refine g.mono ?_;rintro e o ⟨rfl,c⟩;exact⟨(),rfl,⟨c.os,c.tape,c.output,c.size,λk t _=>c.block k t⟩,λ_ _=>False,⟨λi m u=>by simp at u,λi k h=>h.elim,λi j k h=>h.elim⟩,λq y=>by simp at y⟩
def Et (fuel:Nat) (a:ByteArray×List (ByteArray×Int×Int×Int×Int×Int)×List (zB)):Option Bool:=some true
theorem Ng (a:Nat) {b:ByteArray×List (ByteArray×Int×Int×Int×Int×Int)×List (zB)} (d f:V0) (r:Bool) (h:Et a b=some r):
  bE Tryz.prog 168 #[Value.agg #[vS b.1,d,f]] [Sl aE d b.2.1,Sl aD f b.2.2,PF (Value.agg #[vS b.1,d,f])] (λx:Unit=>vB (r)) (λx l=>l) (λ_ l=>l):=by
 cases h;intro w S z;have g:Calls Tryz.prog 168 #[Value.agg #[vS b.1,d,f]] w λe o=>e = .returned (.bool true)/\Nk w o:=by
  rcases z _ (zA0 (i:=2) rfl)with v
  ·refine NH (fuel:=4000) aeX TX ?_ v;obtain⟨p,n,s⟩:=QV Zv;rw[Gm (G:=gp0) IZ]at n;exact⟨p,n,s⟩
 refine g.mono ?_;rintro e o ⟨rfl,c⟩;exact⟨(),rfl,⟨c.os,c.tape,c.output,c.size,λk t _=>c.block k t⟩,λ_ _=>False,⟨λi m u=>by simp at u,λi k h=>h.elim,λi j k h=>h.elim⟩,λq y=>by simp at y⟩
end Go.Proofs.YtflciafboapaaaaGreat
namespace Go.Proofs.YtflciafboapaaaaGreat
open Go Go.Sx
abbrev agT:=GT
abbrev PRG:=ByteArray×(List agT)×(List zB)
abbrev GRF:=List Int×iI
abbrev SCN:=PRG×GRF×Int×bQ
abbrev WLK:=SCN×bQ×Int×fI
inductive E where
 |lf (o a:Int)
 |un (o:Int) (x:E)
 |ag (o:Int) (x:E)
 |bi (o:Int) (x y:E)
 |ite (x y z:E)
def E.ts:E->fI
 |lf o a=>[(o,a)]
 |un o x=>(o,0)::x.ts
 |ag o x=>(o,0)::x.ts
 |bi o x y=>(o,0)::(x.ts++y.ts)
 |ite x y z=>(43,0)::(x.ts++(y.ts++z.ts))
def E.depth:E->Nat
 |lf _ _=>1
 |un _ x=>x.depth+1
 |ag _ x=>x.depth+1
 |bi _ x y=>max x.depth y.depth+1
 |ite x y z=>max x.depth (max y.depth z.depth)+1
def E.arOk:E->Bool
 |lf o _=>decide (1<=o)&&decide (o<=17)
 |un o x=>decide (18<=o)&&decide (o<=19)&&x.arOk
 |ag o x=>decide (20<=o)&&decide (o<=29)&&x.arOk
 |bi o x y=>decide (30<=o)&&decide (o<=42)&&x.arOk&&y.arOk
 |ite x y z=>x.arOk&&y.arOk&&z.arOk
theorem TR {b:Type} [Inhabited b] {T a rest:List b} {x:b} {k:Nat} (c:T=a++x::rest) (d:a.length=k):at' T (k:Int)=x:=by
 subst c;exact Vr a rest x k d
theorem cV {k:Nat} (h:k<1000000):wI .i64 ((k:Int)+1)=((k+1:Nat):Int):=by rw[wr (by omega) (by omega)];rfl
theorem Xb (f:Nat) {o:Int} (a:1<=o) (b:o<=43):Al f o=some (if o<=17 then 0 else if o<=29 then 1 else if o<=42 then 2 else 3):=by
 unfold Al Cp;rw[if_neg (by omega)];simp only[zAa];rw[if_neg (by omega)];split
 ·rfl
 ·split
  ·rfl
  ·split<;>rfl
theorem XK {F:Nat} {T c rest:fI} {t:fF} {k m a b:Nat} (d:T=c++t::rest) (g:c.length=k) (i:k<1000) (n:m<3000) (e:Al F t.1=some ((a:Nat):Int)) (f:a<=3) (j:m+a≠0):
  bL (mP F T) (b+1) ((k:Int),(m:Int))=if m+a=1 then some (((k+1:Nat):Int))else bL (mP F T) b (((k+1:Nat):Int),((m+a - 1:Nat):Int)):=by
 have l:k<T.length:=by rw[d];simp;omega
 show mP F T ((k:Int),(m:Int)) (bL (mP F T) b)=_;unfold mP;dsimp only;rw[if_pos (by omega),cF (by omega),TR d g,bH e,if_neg (by omega),wr (x:=((a:Nat):Int) - 1) (by omega) (by omega),wr (by omega) (by omega),cV (by omega)];by_cases h:m+a=1
 ·rw[if_pos h,if_pos (by omega)]
 ·rw[if_neg h,if_neg (by omega)];have:(m:Int)+((a:Int) - 1)=((m+a - 1:Nat):Int):=by omega
  rw[this]
theorem aaQ (F:Nat) (T:fI) (H:T.length<=900):∀(e:E),e.arOk=true->∀(c k m:Nat) (d b:fI),T=d++(e.ts++b)->d.length=k->1<=m->m+2*(e.ts++b).length<=1900->e.ts.length<=c->
  bL (mP F T) c ((k:Int),(m:Int))=if m=1 then some (((k+e.ts.length:Nat):Int))else bL (mP F T) (c - e.ts.length) (((k+e.ts.length:Nat):Int),((m - 1:Nat):Int)):=by
 have r:∀{t:fF} {l b d:fI} {c k m:Nat},T=d++((t::l)++b)->d.length=k->(t::l).length<=c->1<=t.1->t.1<=43->1<=m->m+2*((t::l)++b).length<=1900->∀a:Nat,(if t.1<=17 then 0 else if t.1<=29 then 1 else if t.1<=42 then 2 else 3:Int)=a->a<=3->∃f,c=f+1/\
   bL (mP F T) c ((k:Int),(m:Int))=if m+a=1 then some (((k+1:Nat):Int))else bL (mP F T) f (((k+1:Nat):Int),((m+a - 1:Nat):Int)):=by
  intro t l b d c k m n p q v w i j a I B;have A:=congrArg List.length n;simp only[zA5,zA8]at A j q;obtain⟨f,rfl⟩:∃f,c=f+1:=⟨c - 1,by omega⟩
  exact⟨f,rfl,XK (rest:=l++b) (by simpa using n) p (by omega) (by omega) (by rw[Xb F v w,I]) B (by omega)⟩
 intro e
 induction e with
 |lf o a=>
  intro g c k m d b n p i j q;simp only[E.arOk,zA6,zAa]at g;obtain⟨f,rfl,h⟩:=r (t:=(o,a)) (l:=[]) n p q (by dsimp only;omega) (by dsimp only;omega) i j 0 (by rw[if_pos (by dsimp only;omega)];rfl) (by omega);rw[h];rfl
 |un o x C=>
  intro g c k m d b n p i j q;simp only[E.arOk,zA6,zAa]at g;obtain⟨f,rfl,h⟩:=r (t:=(o,0)) (l:=x.ts) n p q (by dsimp only;omega) (by dsimp only;omega) i j 1 (by rw[if_neg (by dsimp only;omega),if_pos (by dsimp only;omega)];rfl) (by omega);simp only[E.ts,zA8]at q j ⊢;rw[h,if_neg (by omega)];have:=C g.2 f (k+1) m (d++[(o,0)]) b (by rw[n];simp[E.ts]) (by simp[p]) i (by simp at j ⊢;omega) (by omega);rw[show m+1 - 1=m by omega,this,show k+1+x.ts.length=k+(x.ts.length+1) by omega,show f+1 - (x.ts.length+1)=f - x.ts.length by omega]
 |ag o x C=>
  intro g c k m d b n p i j q;simp only[E.arOk,zA6,zAa]at g;obtain⟨f,rfl,h⟩:=r (t:=(o,0)) (l:=x.ts) n p q (by dsimp only;omega) (by dsimp only;omega) i j 1 (by rw[if_neg (by dsimp only;omega),if_pos (by dsimp only;omega)];rfl) (by omega);simp only[E.ts,zA8]at q j ⊢;rw[h,if_neg (by omega)];have:=C g.2 f (k+1) m (d++[(o,0)]) b (by rw[n];simp[E.ts]) (by simp[p]) i (by simp at j ⊢;omega) (by omega);rw[show m+1 - 1=m by omega,this,show k+1+x.ts.length=k+(x.ts.length+1) by omega,show f+1 - (x.ts.length+1)=f - x.ts.length by omega]
 |bi o x y s u=>
  intro g c k m d b n p i j q;simp only[E.arOk,zA6,zAa]at g;obtain⟨f,rfl,h⟩:=r (t:=(o,0)) (l:=x.ts++y.ts) n p q (by dsimp only;omega) (by dsimp only;omega) i j 2 (by rw[if_neg (by dsimp only;omega),if_neg (by dsimp only;omega),if_pos (by dsimp only;omega)];rfl) (by omega);simp only[E.ts,zA8,zA5]at q j ⊢;rw[h,if_neg (by omega)];have v:=s g.1.2 f (k+1) (m+1) (d++[(o,0)]) (y.ts++b) (by rw[n];simp[E.ts]) (by simp[p]) (by omega) (by simp at j ⊢;omega) (by omega);have w:=u g.2 (f - x.ts.length) (k+1+x.ts.length) m (d++((o,0)::x.ts)) b (by rw[n];simp[E.ts]) (by simp[p];omega) (by omega) (by simp at j ⊢;omega) (by omega);rw[show m+2 - 1=m+1 by omega,v,if_neg (by omega),show m+1 - 1=m by omega,w,show k+1+x.ts.length+y.ts.length=k+(x.ts.length+y.ts.length+1) by omega,show f+1 - (x.ts.length+y.ts.length+1)=f - x.ts.length - y.ts.length by omega]
 |ite x y z s u D=>
  intro g c k m d b n p i j q;simp only[E.arOk,zA6,zAa]at g;obtain⟨f,rfl,h⟩:=r (t:=(43,0)) (l:=x.ts++(y.ts++z.ts)) n p q (by decide) (by decide) i j 3 Z (by omega);simp only[E.ts,zA8,zA5]at q j ⊢;rw[h,if_neg (by omega)];have v:=s g.1.1 f (k+1) (m+2) (d++[(43,0)]) (y.ts++z.ts++b) (by rw[n];simp[E.ts]) (by simp[p]) (by omega) (by simp at j ⊢;omega) (by omega);have w:=u g.1.2 (f - x.ts.length) (k+1+x.ts.length) (m+1) (d++((43,0)::x.ts)) (z.ts++b) (by rw[n];simp[E.ts]) (by simp[p];omega) (by omega) (by simp at j ⊢;omega) (by omega);have G:=D g.2 (f - x.ts.length - y.ts.length) (k+1+x.ts.length+y.ts.length) m (d++((43,0)::(x.ts++y.ts))) b (by rw[n];simp[E.ts]) (by simp[p];omega) (by omega) (by simp at j ⊢;omega) (by omega);rw[show m+3 - 1=m+2 by omega,v,if_neg (by omega),show m+2 - 1=m+1 by omega,w,if_neg (by omega),show m+1 - 1=m by omega,G,show k+1+x.ts.length+y.ts.length+z.ts.length=k+(x.ts.length+(y.ts.length+z.ts.length)+1) by omega,show f+1 - (x.ts.length+(y.ts.length+z.ts.length)+1)=f - x.ts.length - y.ts.length - z.ts.length by omega]
theorem ady (F:Nat) (e:E) (d:e.arOk=true) {T b a:fI} {k:Nat} (f:T=b++(e.ts++a)) (i:b.length=k) (j:T.length<=800) (h:e.ts.length<=F):FB F T (k:Int)=some (((k+e.ts.length:Nat):Int)):=by
 have g:1<=e.ts.length:=by cases e<;>simp[E.ts]
 have c:=congrArg List.length f;simp only[zA5]at c;unfold FB Eh;rw[if_neg (by omega)];simp only[zAa];rw[if_neg (by omega)];have:=aaQ F T (by omega) e d F k 1 b a f i (by omega) (by simp;omega) h;rw[if_pos Z]at this;exact this
def RX (b:Bool):Int:=if b then 1 else 0
theorem xZ (f:Nat) (b:Bool):kL f b=some (RX b):=by cases b<;>rfl
theorem nZ {a:Type} [Inhabited a] {l:List a} {k:Nat} (h:k<l.length):l.take (k+1)=l.take k++[at' l (k:Int)]:=by
 rw[List.take_add_one,zA2 h,mU,zAd,zA2 h];rfl
theorem kE {a:Type} [Inhabited a] {l:List a} {k:Nat} (h:k<l.length):at' l (k:Int)=l[k]:=by
 rw[mU,zAd,zA2 h];rfl
theorem NK {p:Nat->Prop}:∀(n:Nat),p n->∃m,m<=n/\p m/\∀j,j<m->¬p j:=by
 intro n
 induction n using Nat.strongRecOn with
 | _ n ih =>
  intro h;by_cases d:∃m,m<n/\p m
  ·obtain⟨m,e,f⟩:=d;obtain⟨k,a,b,c⟩:=ih m e f;exact⟨k,by omega,b,c⟩
  ·exact⟨n,zAh n,h,λj g i=>d ⟨j,g,i⟩⟩
theorem UA {g:Type} [DecidableEq g]:∀(c b:List g),c.Nodup->(∀x∈c,x∈b)->c.length<=b.length
 | [],b,_,_=>Nat.zero_le _
 |a::c,b,h,hs=>by
  have d:=hs a zAe;have h:=List.nodup_cons.1 h;have:=UA c (b.erase a) h.2 (λx f=>(List.mem_erase_of_ne (fun(e:x=a)=>h.1 (by rw[<-e];exact f))).2 (hs x (zAl _ f)));rw[List.length_erase_of_mem d]at this;have i:0<b.length:=List.length_pos_of_mem d;simp only[zA8];omega
def nz (x:Int):Bool:=decide (x≠0)
theorem XC (f:Nat) (l:bT) (h:l.length<f) (e:l.length<=1000):r_ f l=some ((l.countP nz:Nat):Int):=by
 unfold r_;have:=dJ (step:=tE l) (K:=some ((l.countP nz:Nat):Int)) l.length (λk=>(((l.take k).countP nz:Nat),(k:Int))) (λk b c=>by
  have d:(l.take k).countP nz<=k:=zB4 List.countP_le_length (by simp;omega);unfold tE xJ;dsimp only;rw[if_pos (by omega),cF (by omega),nZ c,List.countP_append,cV (by omega),cV (by omega)];by_cases a:at' l (k:Int)=0
  ·rw[if_neg (by simpa using a)];simp[nz,a]
  ·rw[if_pos a];simp[nz,a]) (λb=>by
  unfold tE BR;dsimp only;rw[if_neg (by omega),zB2]) f h
 exact this
theorem Ki (f:Nat) (l:bT) (x:Int) (h:l.length<f) (t:l.length<=1000):tV f l x=some (decide (x∈l)):=by
 have q:∃i:Int,qW f l x=some i/\(0<=i↔x∈l):=by
  by_cases b:x∈l
  ·obtain⟨i,r,o⟩:=List.mem_iff_getElem.1 b;have a:∃i,i<l.length/\at' l (i:Int)=x/\∀j,j<i->at' l (j:Int)≠x:=by
    obtain⟨m,d,c,s⟩:=NK (p:=λi=>at' l (i:Int)=x) i (by rw[kE r,o]);exact⟨m,by omega,c,s⟩
   obtain⟨i,r,d,c⟩:=a;refine⟨i,?_,iff_of_true (by omega) b⟩
   unfold qW;exact dJ (step:=lT l x) (K:=some (i:Int)) i (λk=>(k:Int)) (λk n g=>by
    unfold lT;rw[if_pos (by omega),cF (by omega),if_neg (λe=>c k g e.symm),cV (by omega)]) (λn=>by
    unfold lT;rw[if_pos (by omega),cF (by omega),if_pos d.symm]) f (by omega)
  ·refine⟨-1,?_,iff_of_false (by omega) b⟩
   unfold qW;exact dJ (step:=lT l x) (K:=some (-1)) l.length (λk=>(k:Int)) (λk n g=>by
    unfold lT;rw[if_pos (by omega),cF (by omega),if_neg (λe=>b (by rw[e,kE g];exact List.getElem_mem g)),cV (by omega)]) (λn=>by
    unfold lT yN;rw[if_neg (by omega)]) f h
 obtain⟨i,d,c⟩:=q;unfold tV;rw[bH d];by_cases b:x∈l
 ·rw[zA4 b,zA4 (c.2 b)]
 ·rw[zA3 b,zA3 (λe=>b (c.1 e))]
def iM (l:bT):Int:=match l.findIdx? nz with
 |some i=>(i:Int)
 |none=> -1
theorem Ea {l:bT} {i:Nat} (a:i<l.length) (b:at' l (i:Int)≠0) (c:∀j,j<i->at' l (j:Int)=0):iM l=i:=by
 have:l.findIdx? nz=some i:=by
  rw[List.findIdx?_eq_some_iff_getElem];refine⟨a,by rw[<-kE a];simpa [nz]using b,λj d=> ?_⟩
  have:=c j d;rw[kE (by omega)]at this;simp[nz,this]
 unfold iM;rw[this]
theorem D_ {l:bT} (h:∀j,j<l.length->at' l (j:Int)=0):iM l = -1:=by
 have:l.findIdx? nz=none:=by
  rw[List.findIdx?_eq_none_iff];intro x b;obtain⟨i,a,rfl⟩:=List.mem_iff_getElem.1 b;have:=h i a;rw[kE a]at this;simp[nz,this]
 unfold iM;rw[this]
theorem XV (f:Nat) (l:bT) (h:l.length<f) (t:l.length<=1000):oH f l (λq=>pW f q)=some (iM l):=by
 unfold oH;by_cases a:∃i,i<l.length/\at' l (i:Int)≠0
 ·obtain⟨i,s,o⟩:=a;obtain⟨m,r,n,b⟩:=NK (p:=λi=>at' l (i:Int)≠0) i o;have b:∀j,j<m->at' l (j:Int)=0:=λj d=>zAy.1 (b j d);rw[Ea (by omega) n b];exact dJ (step:=iX l _) (K:=some (m:Int)) m (λk=>(k:Int)) (λk c g=>by
   unfold iX pW;rw[if_pos (by omega),cF (by omega),bH Z,if_neg (by simp[b k g]),cV (by omega)]) (λc=>by
   unfold iX pW;rw[if_pos (by omega),cF (by omega),bH Z,if_pos (by simpa using n)]) f (by omega)
 ·have a:∀j,j<l.length->at' l (j:Int)=0:=λj d=>zAy.1 λe=>a ⟨j,d,e⟩;rw[D_ a];exact dJ (step:=iX l _) (K:=some (-1)) l.length (λk=>(k:Int)) (λk c g=>by
   unfold iX pW;rw[if_pos (by omega),cF (by omega),bH Z,if_neg (by simp[a k g]),cV (by omega)]) (λc=>by
   unfold iX qM;rw[if_neg (by omega)]) f h
def VT (l:bT):Int:=l.foldl min 1073741824
theorem adU (f:Nat) (l:bT) (h:l.length<f) (c:l.length<=1000):bL (v_ l) f ((1073741824:Int),(0:Int))=some (VT l):=by
 exact dJ (step:=v_ l) (K:=some (VT l)) l.length (λk=>((l.take k).foldl min 1073741824,(k:Int))) (λk a b=>by
  unfold v_;dsimp only;rw[if_pos (by omega),cF (by omega),nZ b,List.foldl_append,cV (by omega)];rfl) (λa=>by
  unfold v_ CZ;dsimp only;rw[if_neg (by omega),zB2];rfl) f h
def QM (l:bT):Nat->Nat->Nat
 |0,k=>k
 |f+1,k=>if((k:Nat):Int)∈l then QM l f (k+1)else k
def LY (l:bT):Nat:=QM l (l.length+1) 0
theorem LZ (l:bT):((LY l:Nat):Int)∉l/\(∀j,j<LY l->((j:Nat):Int)∈l)/\LY l<=l.length:=by
 have key:∀(f k:Nat),(∀j,j<k->((j:Nat):Int)∈l)->(∀j,j<QM l f k->((j:Nat):Int)∈l)/\(QM l f k=k+f\/((QM l f k:Nat):Int)∉l):=by
  intro f
  induction f with
  |zero=>intro k h;exact⟨h,.inl Z⟩
  | succ f ih =>
   intro k h;by_cases hk:((k:Nat):Int)∈l
   ·have:=ih (k+1) (λj hj=>by
     rcases zAu j k with q|q
     ·exact h j q
     ·rw[show j=k by omega];exact hk)
    simp only[QM,if_pos hk];exact⟨this.1,this.2.imp (λe=>by omega) id⟩
   ·simp only[QM,if_neg hk];exact⟨h,.inr hk⟩
 have hle:∀m,(∀j,j<m->((j:Nat):Int)∈l)->m<=l.length:=λm h=>by
  have:=UA ((List.range m).map λj=>((j:Nat):Int)) l (by
   rw[List.nodup_iff_pairwise_ne,List.pairwise_map];exact(List.nodup_iff_pairwise_ne.1 List.nodup_range).imp (λh e=>h (by omega))) (λx hx=>by
   obtain⟨j,hj,rfl⟩:=zB5.1 hx;exact h j (zAt.1 hj))
  simpa using this
 obtain⟨h1,h2⟩:=key (l.length+1) 0 (λj hj=>by omega);have h3:=hle _ h1;refine⟨?_,h1,h3⟩
 rcases h2 with h2|h2
 ·have:QM l (l.length+1) 0<=l.length:=h3;omega
 ·exact h2
theorem adT (f:Nat) (l:bT) (h:l.length+2<f) (hl:l.length<=900):Dx f l=some ((LY l:Nat):Int):=by
 obtain⟨h1,h2,h3⟩:=LZ l;unfold Dx;exact dJ (step:=Cv f l) (K:=some ((LY l:Nat):Int)) (LY l) (λk=>(k:Int)) (λk ag hk=>by
  unfold Cv;rw[bH (Ki f l (k:Int) (by omega) (by omega)),if_pos (by simpa using h2 k hk),cV (by omega)]) (λag=>by
  unfold Cv DZ;rw[bH (Ki f l _ (by omega) (by omega)),if_neg (by simpa using h1)]) f (by omega)
def abH (l:bT):Int:=l.foldl (λa x=>wI .i64 (a+x)) 0
theorem aei (f:Nat) (l:bT) (h:l.length<f) (c:l.length<=1000):bL (wA f l) f ((0:Int),(0:Int))=Fu f (abH l):=by
 refine(dJ (step:=wA f l) l.length (λk=>(abH (l.take k),(k:Int))) (λk a b=> ?_) (λa=> ?_) f h).trans Z
 ·unfold wA;dsimp only;rw[if_pos (by omega),cF (by omega),cV (by omega),nZ b];unfold abH;rw[List.foldl_append];rfl
 ·unfold wA;dsimp only;rw[if_neg (by omega),zB2]
def II (o:Int) (l:bT):Int:=
 if o=20 then RX (l.all nz)else if o=21 then RX (l.any nz)else if o=22 then((l.countP nz:Nat):Int)else if o=23 then iM l else if o=24 then VT l else if o=26 then max (-1073741824) (min (abH l) 1073741824)else((LY l:Nat):Int)
theorem aaY (f:Nat) (o:Int) (l:bT) (hf:40<=f) (hl:l.length<=24) (ho:o=20\/o=21\/o=22\/o=23\/o=24\/o=26\/o=27):Ed f o l=some (II o l):=by
 have hc:=XC f l (by omega) (by omega);unfold Ed;rcases ho with rfl|rfl|rfl|rfl|rfl|rfl|rfl
 ·rw[if_pos Z,bH hc,bH (xZ f _),II,if_pos Z];have:(decide (((l.countP nz:Nat):Int)=(l.length:Int)))=l.all nz:=by
   rw[Bool.eq_iff_iff];simp[List.countP_eq_length,Int.ofNat_inj]
  rw[this]
 ·rw[if_neg (by decide),if_pos Z,bH hc,bH (xZ f _),II,if_neg (by decide),if_pos Z];have:(decide ((0:Int)<((l.countP nz:Nat):Int)))=l.any nz:=by
   rw[Bool.eq_iff_iff,zAa,List.any_eq_true,show((0:Int)<((l.countP nz:Nat):Int))↔0<l.countP nz by omega,List.countP_pos_iff]
  rw[this]
 ·rw[if_neg (by decide),if_neg (by decide),if_pos Z,bH hc];rfl
 ·rw[if_neg (by decide),if_neg (by decide),if_neg (by decide),if_pos Z,bH (XV f l (by omega) (by omega))];rfl
 ·rw[if_neg (by decide),if_neg (by decide),if_neg (by decide),if_neg (by decide),if_pos Z,adU f l (by omega) (by omega)];rfl
 ·rw[if_neg (by decide),if_neg (by decide),if_neg (by decide),if_neg (by decide),if_neg (by decide),if_neg (by decide),if_pos Z,aei f l (by omega) (by omega)];rfl
 ·rw[if_neg (by decide),if_neg (by decide),if_neg (by decide),if_neg (by decide),if_neg (by decide),if_neg (by decide),if_neg (by decide),if_pos Z,bH (adT f l (by omega) (by omega))];rfl
end Go.Proofs.YtflciafboapaaaaGreat
namespace Go.Proofs.YtflciafboapaaaaGreat
open Go.Sx
def CJ (a:Unit):Option (Int):=
 some (-1:Int)
def yD (c:cJ) (d e a:Int) (b:(Int)->Option (Int)):Option (Int):=
 if a<((at' c.2 d).length:Int)then(ck (0<=a/\a<((at' c.2 d).length:Int)) (if((at' (at' c.2 d) a).1)=e then(some (a))else(b (wI .i64 (a+(1:Int))))))else(CJ (()))
def mM (U:Nat) (b:cJ) (a c:Int):Option (Int):=
 ck (0<=a/\a<(b.2.length:Int)) (bL (yD b a c) U (0:Int))
theorem TU:bB Tryz.prog 110:=Tryz.call110
theorem GK (U:Nat) {p0:cJ} {p1 p2:Int} (f g:V0) (k:kX) (r:Int) (h:mM U p0 p1 p2=some r):
  bE Tryz.prog 110 #[Value.agg #[f,g],vI (p1),vI (p2)] [Sl aM f p0.1,S2 aY g k p0.2] (λx:Unit=>vI (r)) (λx l=>l) (λ_ l=>l):=by
 refine bE.of Tryz.func110 Z Tryz.ntmps110 Z λc=>?_;refine aU<|aJ (aQ.box (cs:=[f,g]) Z Z) Z λn=>aC Z<|aP<|aN<|eB (λe=>CJ e=some r) (λe i=>[]) (λe i=>[]) ?_ ?_
 ·refine aU<|bV Z<|dK 0 Z<|aA Z<|cQ h λb h=>aB (bK Z Z (mR Z) Z Z b) Z<|aB (bS Z (mR Z) Z Z b) Z<|aB (fH Z (zBc (mR Z) b.1 b.2) Z) Z<|aA Z<|aP<|aT<|eW (yD p0 p1 p2) (λa j=>[(2,vI (p2)),(13,(at' k p1).1),(14,vI ((at' p0.2 p1).length:Int)),(15,vI (a))]) (λa j=>[]) (0:Int) () h SF .nil ?_;intro o a j h;refine aU<|cU Z<|aP<|aN ?_;refine eG h Z (λh=>?_) λh=>?_
  ·refine cL<|aN<|aT<|aU<|aA Z<|cQ h λd h=>aB (bG Z Z (zBc (mR Z) b.1 b.2) Z Z d) Z<|aB (gS (cs:=[vI ((at' (at' p0.2 p1) a).1),vI ((at' (at' p0.2 p1) a).2)]) Z (zBc (mR Z) b.1 b.2) cR Z Z Z Z d) Z<|aJ (aQ.alloc (cs:=TF) Z Z) Z λm=>aC Z<|cD 0 (vs:=[vI ((at' (at' p0.2 p1) a).1),vI ((at' (at' p0.2 p1) a).2)]) Z Z Z Z Z Z<|aP<|aU<|bV Z<|dK 0 Z<|aA Z<|cH Z<|aP ?_;refine eG h Z (λh=>?_) λh=>?_
   ·refine aU<|aA Z<|aC Z<|aP<|aS<|bF<|aG<|aG<|bF<|aG ?_;cases h;exact mO Z
   refine dW<|lA<|aR<|cN Z<|aA Z<|aP ?_;exact iP (wI .i64 (a+(1:Int))) () h SF .nil (aH.refl _ _)
  refine eP ?_;exact f_ () (()) h SF Z
 intro e i h;unfold CJ at h;refine aU<|aC Z<|aP<|aS ?_;cases h;exact iR Z
def Cz (a:Bool):Option Bool:=
 some (a)
def iC (U:Nat) (a b c:Int):Option Bool:=
 if b<=a then(Cz (decide (a<=c)))else(Cz (false))
theorem uQ:bB Tryz.prog 54:=Tryz.call54
theorem jL (U:Nat) {b f d:Int} (r:Bool) (h:iC U b f d=some r):
  bE Tryz.prog 54 #[vI (b),vI (f),vI (d)] [] (λx:Unit=>vB (r)) (λx l=>l) (λ_ l=>l):=by
 refine bE.of Tryz.func54 Z Tryz.ntmps54 Z λc=>?_;refine aU<|aC Z<|aP<|aN<|eB (λa=>Cz a=some r) (λa e=>[(6,vB (a))]) (λa e=>[]) ?_ ?_
 ·refine aR<|aA Z<|aA Z<|aB (uI Z Z) Z<|aA Z ?_;refine Ds h Z (λ_ h=>?_) λ_ h=>?_
  ·refine dD Z<|dD Z<|aW Z (CS Z Z) Z<|d_ Z<|aC Z<|aP ?_;exact f_ (decide (b<=d)) () h SF Z
  refine aO Z<|aO Z<|aO Z<|eR Z<|aC Z<|aP ?_;exact f_ (false) () h SF Z
 intro a e h;unfold Cz at h;refine aS ?_;cases h;exact iR Z
def qK (a:Unit):Option Bool:=
 some (true)
def qL (b:Int) (a:(Int)->Option Bool) (c:Unit):Option Bool:=
 a (wI .i64 (b+(1:Int)))
def jY (d:fI) (b:Int) (e:(Int)->Option Bool) (a:Int) (c:(Int)->Option Bool):Option Bool:=
 if a<b then(ck (0<=a/\a<(d.length:Int)) (ck (0<=b/\b<(d.length:Int)) (if((at' d a).1)=((at' d b).1)then(some (false))else(c (wI .i64 (a+(1:Int)))))))else(qL b e (()))
def lP (U:Nat) (d:fI) (c:Int) (b:(Int)->Option Bool) (a:Bool):Option Bool:=
 if a=true then(some (false))else(bL (jY d c b) U (0:Int))
def iW (U:Nat) (b:fI) (f g a:Int) (c:(Int)->Option Bool):Option Bool:=
 if a<(b.length:Int)then(ck (0<=a/\a<(b.length:Int)) (Option.bind (iC U ((at' b a).1) (0:Int) (wI .i64 (g - (1:Int)))) λd=>(if(!d)=true then(lP U b a c (true))else(ck (0<=a/\a<(b.length:Int)) (if((at' b a).1)=f then(lP U b a c (true))else(ck (0<=a/\a<(b.length:Int)) (Option.bind (iC U ((at' b a).2) (1:Int) (15:Int)) λe=>(lP U b a c ((!e))))))))))else(qK (()))
def mA (U:Nat) (a:fI) (b c:Int):Option Bool:=
 bL (iW U a b c) U (0:Int)
theorem aae:bB Tryz.prog 117:=Tryz.call117
theorem Il (U:Nat) {i:fI} {e f:Int} (j:V0) (r:Bool) (h:mA U i e f=some r):
  bE Tryz.prog 117 #[j,vI (e),vI (f)] [Sl aY j i] (λx:Unit=>vB (r)) (λx l=>l) (λ_ l=>l):=by
 refine bE.of Tryz.func117 Z Tryz.ntmps117 Z λc=>?_;unfold mA at h;refine aU<|aC Z<|aP<|aN<|eB (λv=>qK v=some r) (λv D=>[]) (λv D=>[]) ?_ ?_
 ·refine aU<|aC Z<|aP<|aT<|eW (iW U i e f) (λd E=>[(0,j),(1,vI (e)),(2,vI (f)),(7,vI (d))]) (λd E=>[]) (0:Int) () h SF (a_.refl _) ?_;intro y d E h;refine aN<|aU<|aA Z<|aA Z<|iL (b_ Z) Z<|cU Z<|aP ?_;refine eG h Z (λh=>?_) λh=>?_
  ·refine cL<|aN<|eB (λw=>qL d (bL (iW U i e f) y) w=some r) (λw k=>[(0,j),(1,vI (e)),(2,vI (f)),(7,vI (d))]) (λw k=>[]) ?_ ?_
   ·refine aT<|aN<|aN<|eB (λa=>lP U i d (bL (iW U i e f) y) a=some r) (λa m=>[(0,j),(1,vI (e)),(2,vI (f)),(7,vI (d)),(41,vB (a))]) (λa m=>[]) ?_ ?_
    ·refine aR<|aA Z<|aA Z<|cQ h λq h=>aB (bG Z Z (b_ Z) Z Z q) Z<|aB (dC Z Z Z Z Z) Z<|aB (eL Z (b_ Z) Z Z Z gA q) Z<|aA Z<|aB (nI Z Z) Z<|eI h λA B h=>aJ (zBb uQ (jL U A B) Z .nil) Z λG=>aB (jG Z) Z<|aA Z ?_;refine vW (by exact rfl) (by exact rfl) (λb=>?_) (λb=>?_)
     ·have h:=Hh b h;refine aO Z<|aO Z<|aO Z<|aO Z<|aO Z<|aO Z<|aO Z<|d_ Z<|aA Z<|aO Z<|aO Z<|aO Z<|aO Z<|aO Z<|aO Z<|aO Z<|d_ Z<|aP ?_;exact f_ (true) () h SF Z
     have h:=En b h;refine dD Z<|dD Z<|cQ h λs h=>aW Z (bG Z Z (b_ Z) Z Z s) Z<|aW Z (dC Z Z Z Z Z) Z<|aW Z (eL Z (b_ Z) Z Z Z gA s) Z<|dD Z<|aW Z (Lu Z Z) Z<|eR Z<|aA Z ?_;refine Ds h Z (λ_ h=>?_) λ_ h=>?_
     ·refine aO Z<|aO Z<|aO Z<|aO Z<|aO Z<|aO Z<|aO Z<|d_ Z<|aP ?_;exact f_ (true) () h SF Z
     refine dD Z<|dD Z<|cQ h λt h=>aW Z (bG Z Z (b_ Z) Z Z t) Z<|aW Z (dC Z Z Z Z Z) Z<|aW Z (eL Z (b_ Z) Z Z Z Fi t) Z<|eI h λu C h=>oU Z (zBb uQ (jL U u C) Z .nil) Z λH=>aW Z (jG Z) Z<|eR Z<|aP ?_;exact f_ ((!u)) () h SF Z
    intro a m h;refine rR h Z (λ_ h=>?_) λ_ h=>?_
    ·refine aU<|aC Z<|aP<|aS<|aG<|bF<|aG<|aG<|bF<|aG ?_;cases h;exact iR Z
    refine cL<|aU<|aC Z<|aP<|aT<|eW (jY i d (bL (iW U i e f) y)) (λg n=>[(0,j),(1,vI (e)),(2,vI (f)),(7,vI (d)),(8,vI (g))]) (λg n=>[]) (0:Int) () h SF (a_.refl _) ?_;intro F g n h;refine aN<|aU<|aA Z<|aA Z<|cU Z<|aP ?_;refine eG h Z (λh=>?_) λh=>?_
    ·refine cL<|aN<|aT<|aN ?_;refine rP [0,0,3,7,15,0,0,96,224,480,1023] 10 mixedOrders ?_;refine aV Z<|aV Z<|cQ h λo h=>bA Z .nil (eV 0 Z) (bG Z Z (b_ Z) Z Z o) aL.z<|eN Z (dC Z Z Z Z Z)<|bA Z .nil (eV 0 Z) (eL Z (b_ Z) Z Z Z gA o) aL.z<|aV Z<|aV Z<|cQ h λp h=>bA Z .nil (eV 0 Z) (bG Z Z (b_ Z) Z Z p) aL.z<|eN Z (dC Z Z Z Z Z)<|bA Z .nil (eV 0 Z) (eL Z (b_ Z) Z Z Z gA p) aL.z<|bN 10 Z Z<|cH Z<|aP ?_;refine eG h Z (λh=>?_) λh=>?_
     ·refine aU<|aC Z<|aP<|aS<|bF<|aG<|aG<|bF<|bF<|aG<|aG<|bF<|aG ?_;cases h;exact iR Z
     refine dW<|lA<|aR<|aA Z<|cN Z<|aC Z<|aP ?_;exact xD (wI .i64 (g+(1:Int))) () h SF Z
    refine uE<|g_<|g_<|Cr<|lA ?_;exact f_ () (()) h SF Z
   intro w k h;unfold qL at h;refine aR<|aA Z<|cN Z<|aC Z<|aP ?_;exact xD (wI .i64 (d+(1:Int))) () h SF Z
  refine eP ?_;exact f_ () (()) h SF Z
 intro v D h;unfold qK at h;refine aU<|aC Z<|aP<|aS ?_;cases h;exact iR Z
def Eu (a:Unit):Option (Int):=
 some (-1:Int)
def BX (c:cJ) (a e b:Int) (d:(Int)->Option (Int)):Option (Int):=
 ck (0<=a/\a<(c.2.length:Int)) (if b<((at' c.2 a).length:Int)then(ck (0<=a/\a<(c.2.length:Int)) (ck (0<=b/\b<((at' c.2 a).length:Int)) (if((at' (at' c.2 a) b).1)=e then(some (b))else(d (wI .i64 (b+(1:Int)))))))else(Eu (())))
def sB (U:Nat) (a:cJ) (b c:Int):Option (Int):=
 bL (BX a b c) U (0:Int)
theorem OE:bB Tryz.prog 118:=Tryz.call118
theorem FN (U:Nat) {g:cJ} {i j:Int} (k m:V0) (q:kX) (r:Int) (h:sB U g i j=some r):
  bE Tryz.prog 118 #[Value.agg #[k,m],vI (i),vI (j)] [Sl aM k g.1,S2 aY m q g.2] (λx:Unit=>vI (r)) (λx l=>l) (λ_ l=>l):=by
 refine bE.of Tryz.func118 Z Tryz.ntmps118 Z λc=>?_;unfold sB at h;refine aU<|aJ (aQ.box (cs:=[k,m]) Z Z) Z λn=>aC Z<|aP<|aN<|eB (λd=>Eu d=some r) (λd o=>[]) (λd o=>[]) ?_ ?_
 ·refine aU<|aC Z<|aP<|aT<|eW (BX g i j) (λe p=>[(1,vI (i)),(2,vI (j)),(3,vP n),(7,vI (e))]) (λe p=>[bM n [k,m] 31]) (0:Int) () h SF (a_.refl _) ?_;intro s e p h;refine aN<|aU<|aA Z<|bV Z<|dK 0 Z<|aA Z<|cQ h λf h=>aB (bK Z Z (mR Z) Z Z f) Z<|aB (bS Z (mR Z) Z Z f) Z<|aB (fH Z (zBc (mR Z) f.1 f.2) Z) Z<|cU Z<|aP ?_;refine eG h Z (λh=>?_) λh=>?_
  ·refine cL<|aN<|aT<|aU<|bV Z<|dK 0 Z<|aA Z<|cQ h λa h=>aB (bK Z Z (mR Z) Z Z a) Z<|aB (bS Z (mR Z) Z Z a) Z<|aA Z<|cQ h λb h=>aB (bG Z Z (zBc (mR Z) a.1 a.2) Z Z b) Z<|aB (dC Z Z Z Z Z) Z<|aB (eL Z (zBc (mR Z) a.1 a.2) Z Z Z gA b) Z<|aA Z<|cH Z<|aP ?_;refine eG h Z (λh=>?_) λh=>?_
   ·refine aU<|aA Z<|aC Z<|aP<|aS<|bF<|aG<|aG<|bF<|aG ?_;cases h;exact mO Z
   refine dW<|lA<|aR<|aA Z<|cN Z<|aC Z<|aP ?_;exact xD (wI .i64 (e+(1:Int))) () h SF Z
  refine eP ?_;exact cB () (()) h SF .nil (aH.refl _ _)
 intro d o h;unfold Eu at h;refine aU<|aC Z<|aP<|aS ?_;cases h;exact iR Z
def Dy (U:Nat) (a:ByteArray) (b c d:Int):Option ((ByteArray×Int×Int×Int×Int×Int)):=
 some ((a,(1:Int),(0:Int),b,c,d))
theorem ada:bB Tryz.prog 45:=Tryz.call45
theorem Mu (U:Nat) {a:ByteArray} {b d e:Int} (r:UR) (h:Dy U a b d e=some r):
  bE Tryz.prog 45 #[vS (a),vI (b),vI (d),vI (e)] [] (λx:Unit=>Value.agg #[vS (r.1),vI (r.2.1),vI (r.2.2.1),vI (r.2.2.2.1),vI (r.2.2.2.2.1),vI (r.2.2.2.2.2)]) (λx l=>l) (λ_ l=>l):=by
 refine bE.of Tryz.func45 Z Tryz.ntmps45 Z λc=>?_;unfold Dy at h;refine aU<|aJ (aQ.alloc (cs:=vD1) Z Z) Z λf=>aP<|aU<|aA Z<|aA Z<|aA Z<|aA Z ?_;refine aB (Y.bld5 (r:=Value.agg #[vS (a),vI (1:Int),vI (0:Int),vI (b),vI (d),vI (e)]) Z Z Z Z Z (by intro w;simp[Instr.build,Instr.fill,gT,fN,e_,gU,gV,fO,iS])) Z ?_;refine cD 0 (vs:=[vS (a),vI (1:Int),vI (0:Int),vI (b),vI (d),vI (e)]) Z Z Z Z Z Z<|aP<|aS ?_;cases h;exact kY () Z Z (RV.cell 0 Z Z Z Z) .nil aH.nil
def CM (U:Nat) (a:ByteArray):Option ((ByteArray×Int×Int×Int×Int×Int)):=
 some ((a,(3:Int),(0:Int),(0:Int),(0:Int),(0:Int)))
theorem adb:bB Tryz.prog 46:=Tryz.call46
theorem KI (U:Nat) {a:ByteArray} (r:UR) (h:CM U a=some r):
  bE Tryz.prog 46 #[vS (a)] [] (λx:Unit=>Value.agg #[vS (r.1),vI (r.2.1),vI (r.2.2.1),vI (r.2.2.2.1),vI (r.2.2.2.2.1),vI (r.2.2.2.2.2)]) (λx l=>l) (λ_ l=>l):=by
 refine bE.of Tryz.func46 Z Tryz.ntmps46 Z λc=>?_;unfold CM at h;refine aU<|aJ (aQ.alloc (cs:=vD1) Z Z) Z λb=>aP<|aU<|aA Z ?_;refine aB (Gi (r:=Value.agg #[vS (a),vI (3:Int),vI (0:Int),vI (0:Int),vI (0:Int),vI (0:Int)]) Z Z (by intro w;simp[Instr.build,Instr.fill,gT,fN,e_,gU,gV,fO,iS])) Z ?_;refine cD 0 (vs:=[vS (a),vI (3:Int),vI (0:Int),vI (0:Int),vI (0:Int),vI (0:Int)]) Z Z Z Z Z Z<|aP<|aS ?_;cases h;exact kY () Z Z (RV.cell 0 Z Z Z Z) .nil aH.nil
def FA (U:Nat) : Option ((List (ByteArray×Int×Int×Int×Int×Int))):=
 Option.bind (Dy U (ByteArray.mk #[100]) (0:Int) (1:Int) (0:Int)) λa=>(Option.bind (CM U (ByteArray.mk #[112])) λb=>(some ([(a.1,a.2.1,a.2.2.1,a.2.2.2.1,a.2.2.2.2.1,a.2.2.2.2.2),(b.1,b.2.1,b.2.2.1,b.2.2.2.1,b.2.2.2.2.1,b.2.2.2.2.2)])))
theorem acR:bB Tryz.prog 12:=Tryz.call12
theorem PO (U:Nat) (r:(List (ByteArray×Int×Int×Int×Int×Int))) (h:FA U = some r):
  bE Tryz.prog 12 #[] [] (λx:V0=>x) (λx l=>Ar lN x r::l) (λ_ l=>l):=by
 refine bE.of Tryz.func12 Z Tryz.ntmps12 Z λc=>?_;refine aU<|aC Z<|aP<|aU<|eI h λa f h=>aJ (zBb ada (Mu U a f) Z .nil) Z λi=>eI h λb g h=>aJ (zBb adb (KI U b g) Z .nil) Z λj=>aJ (cX (e:=lN) ([((a.1,a.2.1,a.2.2.1,a.2.2.2.1,a.2.2.2.2.1,a.2.2.2.2.2)),((b.1,b.2.1,b.2.2.1,b.2.2.2.1,b.2.2.2.2.1,b.2.2.2.2.2))]) [(0,Value.agg #[vS (a.1),vI (a.2.1),vI (a.2.2.1),vI (a.2.2.2.1),vI (a.2.2.2.2.1),vI (a.2.2.2.2.2)]),(1,Value.agg #[vS (b.1),vI (b.2.1),vI (b.2.2.1),vI (b.2.2.2.1),vI (b.2.2.2.2.1),vI (b.2.2.2.2.2)])] Z Z Z Z (XT (vS (a.1)) (vI (a.2.1)) (vI (a.2.2.1)) (vI (a.2.2.2.1)) (vI (a.2.2.2.2.1)) (vI (a.2.2.2.2.2)) (vS (b.1)) (vI (b.2.1)) (vI (b.2.2.1)) (vI (b.2.2.2.1)) (vI (b.2.2.2.2.1)) (vI (b.2.2.2.2.2))) Z Z Z) Z λd=>aC Z<|aP<|aS ?_;cases h;exact kY (d) Z Z (RV.tmp Z) (a_.refl _) aH.nil
def Eb (a:Int):Option (Int):=
 some (a)
def Ec (c:bT) (a:fF) (b:fW->Option (Int)):Option (Int):=
 if a.2<(c.length:Int)then(ck (0<=a.2/\a.2<(c.length:Int)) (b ((max a.1 (at' c a.2)),(wI .i64 (a.2+(1:Int))))))else(Eb (a.1))
def EK (a:Nat) (b:bT):Option (Int):=
 bL (Ec b) a ((-1:Int),(0:Int))
def xC (b:cJ) (a:iI):Option w_:=
 some ((b.1,a))
def nC (U:Nat) (b:Bo) (d:cJ) (a:Int×iI) (c:(Int×iI)->Option w_) (e:Bool):Option w_:=
 if e=true then(ck (0<=a.1/\a.1<(b.2.1.length:Int)) (Option.bind (iD U (at' b.2.1 a.1) (d.2.length:Int)) λf=>(ck (0<=(wI .i64 (a.1+(1:Int)))/\(wI .i64 (a.1+(1:Int)))<(b.2.1.length:Int)) (Option.bind (iD U (at' b.2.1 (wI .i64 (a.1+(1:Int)))) (d.2.length:Int)) λg=>(Option.bind (uZ U b.2.2.1 a.1) λh=>(Option.bind (iD U h (15:Int)) λi=>(Option.bind (oE U ((b.1,b.2.1,b.2.2.1,b.2.2.2.1,b.2.2.2.2.1,b.2.2.2.2.2)) ((d.1,a.2)) f g (wI .i64 ((1:Int)+i))) λj=>(c ((wI .i64 (a.1+(2:Int))),j)))))))))else(xC d (a.2))
def qH (U:Nat) (c:Bo) (d:cJ) (a:Int×iI) (b:(Int×iI)->Option w_):Option w_:=
 if(wI .i64 (a.1+(1:Int)))<(c.2.1.length:Int)then(nC U c d a b (decide (a.1<(60:Int))))else(nC U c d a b (false))
def oF (U:Nat) (b:Bo) (a:cJ):Option w_:=
 bL (qH U b a) U ((a.2.length:Int),a.2)
theorem ac_:bB Tryz.prog 42:=Tryz.call42
theorem Ij (U:Nat) {d:Bo} {f:cJ} (w o y g k:V0) (W:fL) (r:GU) (h:oF U d f=some r):
  Fg Tryz.prog 42 #[Value.agg #[vI (d.1),w,o,y,vB (d.2.2.2.2.1),vB (d.2.2.2.2.2)],Value.agg #[g,k]] [Ar fT g f.1,Ar bJ.raw k W,fQ bX W f.2] [Sl aM w d.2.1,Sl aM o d.2.2.1,Sl aM y d.2.2.2.1] (λx:V0×V0×List V0=>Value.agg #[x.1,x.2.1]) (λx l=>Ar fT x.1 r.1::Ar bJ.raw x.2.1 x.2.2::fQ bX x.2.2 r.2::l):=by
 let v:=Sl aM w d.2.1;let u:=Sl aM o d.2.2.1;let t:=Sl aM y d.2.2.2.1;let s:=(f.2.length:Int)
 refine Fg.of (vs:=[Value.agg #[vI (d.1),w,o,y,vB (d.2.2.2.2.1),vB (d.2.2.2.2.2)],Value.agg #[g,k]]) Tryz.func42 Z Tryz.ntmps42 Z λc=>?_;unfold oF at h;refine aU<|aJ (aQ.box (cs:=[vI (d.1),w,o,y,vB (d.2.2.2.2.1),vB (d.2.2.2.2.2)]) Z Z) Z λN=>let q:=bM N [vI (d.1),w,o,y,vB (d.2.2.2.2.1),vB (d.2.2.2.2.2)] 24;aJ (aQ.box (cs:=[g,k]) Z Z) Z λL=>let n:=bM L [g,k] 31;aJ (aQ.alloc (cs:=[cW,cW]) Z Z) Z λM=>let m:=bM M [cW,cW] 31;aP<|aU<|bV Z<|dK 1 Z<|aB (dM Z (fG (i:=4) (j:=5) Z Z cR) Z) Z<|aC Z<|aP<|aN<|jW (B:=fL) (λA=>xC f A=some r) (λA C=>[(3,vP L),(4,vP M)]) (λA C=>[m,n,Ar fT g f.1,Ar bJ.raw k C,fQ bX C A]) (λA C=>[v,u,t]) ?_ ?_
 ·refine aU<|aA Z<|aC Z<|aP<|aT<|nH (B:=fL) (qH U d f) (λa b=>[(2,vP N),(3,vP L),(4,vP M),(5,vI s),(6,vI (a.1))]) (λa b=>[m,n,q,Ar fT g f.1,Ar bJ.raw k b,fQ bX b a.2]) (λa b=>[v,u,t]) (s,f.2) (W) h SF (a_.refl _) (aH.refl _ _) ?_;intro Q a b h;refine aN<|aN<|jW (B:=Unit) (λe=>nC U d f a (bL (qH U d f) Q) e=some r) (λe p=>[(2,vP N),(3,vP L),(4,vP M),(5,vI s),(6,vI (a.1)),(20,vB (e))]) (λe p=>[m,n,q,Ar fT g f.1,Ar bJ.raw k b,fQ bX b a.2]) (λe p=>[v,u,t]) ?_ ?_
  ·refine aR<|aA Z<|cN Z<|bV Z<|dK 2 Z<|iL (b_ Z) Z<|cU Z<|aA Z ?_;refine Ds h Z (λ_ h=>?_) λ_ h=>?_
   ·refine dD Z<|aW Z (EF Z Z) Z<|d_ Z<|aP ?_;exact f_ (decide (a.1<(60:Int))) () h SF Z
   refine aO Z<|aO Z<|eR Z<|aP ?_;exact f_ (false) () h SF Z
  intro e p h;refine rR h Z (λ_ h=>?_) λ_ h=>?_
  ·refine cL<|aN<|aT ?_;refine rP [0,0,0,4,0,28,60,0,252,0,512,0,2048,7680,15872,0,65532,0,131072,0,1048572,2097148,4194300,8388607] 23 mixedOrders ?_;refine jA 2 Z<|jA 1 Z<|cC Z<|eQ 2 Z<|aV Z<|cQ h λI h=>bA Z .nil (eV 0 Z) (bG Z Z (b_ Z) Z Z I) aL.z<|bA Z .nil (eV 0 Z) (cI Z (b_ Z) Z Z Z eZ I) aL.z<|aV Z<|eI h λR D h=>zBd Z Z Z (zBb El (kK U R D) Z .nil) Z (λX=>(nK [([1],[]),([2],[])] Z)) λX=>eN Z (cT Z Z Z Z Z)<|bA Z (a_.cons 2 Z .nil) .nil (dL 0 Z Z Z Z Z) (aL.h (a_.ix [2] Z Z) .nil aL.z)<|eN Z (dG Z)<|eN Z (zN Z Z)<|cQ h λJ h=>bA Z .nil (eV 0 Z) (bG Z Z (b_ Z) Z Z J) (aL.h .nil (eV 0 Z) aL.z)<|bA Z .nil (eV 0 Z) (cI Z (b_ Z) Z Z Z eZ J) (aL.h .nil (eV 0 Z) aL.z)<|eN Z (dG Z)<|eI h λS E h=>zBd Z Z Z (zBb El (kK U S E) Z .nil) Z (λY=>(nK [([1],[]),([2],[])] Z)) λY=>eN Z (cT Z Z Z Z Z)<|bA Z (a_.cons 2 Z .nil) .nil (dL 0 Z Z Z Z Z) (aL.h (a_.ix [2] Z Z) .nil (aL.h (a_.ix [2] Z Z) .nil aL.z))<|eN Z (dG Z)<|eI h λT F h=>zBd Z Z Z (zBb LA (DJ U o T F) Z (iB [1] Z)) Z (λaa=>(nK [([1],[]),([2],[])] Z)) λaa=>eI h λV G h=>zBd Z Z Z (zBb El (kK U V G) Z .nil) Z (λab=>(nK [([1],[]),([2],[])] Z)) λab=>eN Z (zN Z Z)<|bN 23 Z Z<|eI h λK H h=>aJ (Ff (Min:=[Ar bJ.raw k b,fQ bX b a.2]) (Mr:=[m,n,q,Ar fT g f.1]) Xp (DF U w o y g k b K H) Z (a_.ix [4,5,0,1,2,3] Z Z) (aH.cons (b_ Z) (aH.cons (mR Z) (aH.cons (zI Z) (aH.cons (dR (aI.res 3 Z) iY) .nil)))) (λ_ _=>rfl)) Z λac=>eS<|lA<|aR<|aA Z<|cN Z<|aC Z<|aP ?_;exact iP ((wI .i64 (a.1+(2:Int))),K) (ac) h SF (a_.ix [2,3,4,5,0,1] Z Z) (aH.refl _ _)
  refine eP ?_;exact cB (a.2) (b) h SF (a_.ix [0,1,3,4,5] Z Z) (aH.refl _ _)
 intro A C h;unfold xC at h;refine aU<|cM 1 Z<|bD (Know.one ((dR (aI.res 2 Z) iY))) λO=>bD (tM (fG (i:=3) (j:=4) Z Z cR)) λP=>cD 0 (vs:=[g,k]) Z Z (fY O (fY P Z)) Z Z Z<|aP<|aS ?_;cases h;exact kY (g,k,C) Z Z (RV.cell 0 Z Z Z Z) (a_.ix [2,3,4] Z Z) aH.nil
def kT (U:Nat) (a:Bo) (d:Int):Option w_:=
 Option.bind (oD U ((a.1,a.2.1,a.2.2.1,a.2.2.2.1,a.2.2.2.2.1,a.2.2.2.2.2)) d) λb=>(Option.bind (oF U ((a.1,a.2.1,a.2.2.1,a.2.2.2.1,a.2.2.2.2.1,a.2.2.2.2.2)) ((b.1,b.2))) λc=>(some ((c.1,c.2))))
theorem aeN:bB Tryz.prog 8:=Tryz.call8
theorem EV (U:Nat) {a:Bo} {o:Int} (d e f:V0) (r:GU) (h:kT U a o=some r):
  bE Tryz.prog 8 #[Value.agg #[vI (a.1),d,e,f,vB (a.2.2.2.2.1),vB (a.2.2.2.2.2)],vI (o)] [Sl aM d a.2.1,Sl aM e a.2.2.1,Sl aM f a.2.2.2.1] (λx:V0×V0×List V0=>Value.agg #[x.1,x.2.1]) (λx l=>Ar fT x.1 r.1::Ar bJ.raw x.2.1 x.2.2::fQ bX x.2.2 r.2::l) (λ_ l=>l):=by
 refine bE.of Tryz.func8 Z Tryz.ntmps8 Z λc=>?_;refine aU<|aJ (aQ.box (cs:=[vI (a.1),d,e,f,vB (a.2.2.2.2.1),vB (a.2.2.2.2.2)]) Z Z) Z λp=>aJ (aQ.alloc (cs:=[cW,cW]) Z Z) Z λq=>aP<|aN ?_;refine rP [0,0,0,6,15,31] 4 mixedOrders ?_;refine jA 1 Z<|jA 1 Z<|aV Z<|eI h λn t h=>zBd Z Z Z (zBb Xh (DD U d e f n t) Z (iB [0,1,2] Z)) Z (λb=>(nK [([4],[])] Z)) λb=>bN 4 Z Z<|eI h λs u h=>aJ (Ff (Min:=[Ar fT b.1 n.1,Ar bJ.raw b.2.1 b.2.2,fQ bX b.2.2 n.2]) (Mr:=[bM q [cW,cW] 31,bM p [vI (a.1),d,e,f,vB (a.2.2.2.2.1),vB (a.2.2.2.2.2)] 24]) ac_ (Ij U d e f b.1 b.2.1 b.2.2 s u) Z (a_.refl _) (iB [0,1,2] Z) (λ_ _=>rfl)) Z λk=>bD (Know.one ((dR (aI.res 0 Z) iY))) λm=>bD (tM (fG (i:=1) (j:=2) Z Z cR)) λg=>cD 3 (vs:=[k.1,k.2.1]) Z Z (fY m (fY g Z)) Z Z Z<|aP<|aS ?_;cases h;exact kY (k.1,k.2.1,k.2.2) Z Z (RV.cell 3 Z Z Z Z) (a_.ix [0,1,2] Z Z) aH.nil
def yO (a:bQ):Option bQ:=
 some (a)
def CQ (a:bQ×Int) (c:(bQ×Int)->Option bQ) (b:bT):Option bQ:=
 ck ((a.1.length:Int)+(List.length ([b]):Int)<=1099511627) (c ((a.1++[b]),(wI .i64 (a.2+(1:Int)))))
def pH (U:Nat) (g:AX) (h:bT) (e:bQ×Int) (a:bT×Int) (c:(bT×Int)->Option bQ) (b:fF):Option bQ:=
 Option.bind (uZ U h (wI .i64 ((wI .i64 (e.2*(g.length:Int)))+a.2))) λf=>(Option.bind (iD U f (wI .i64 ((wI .i64 (b.2 - b.1))+(1:Int)))) λd=>(ck ((a.1.length:Int)+(List.length ([(wI .i64 (b.1+d))]):Int)<=1099511627) (c ((a.1++([(wI .i64 (b.1+d))])),(wI .i64 (a.2+(1:Int)))))))
def pI (U:Nat) (f:cJ) (c:AX) (g:bT) (h:Int) (b:bQ×Int) (e:(bQ×Int)->Option bQ) (a:bT×Int) (d:(bT×Int)->Option bQ):Option bQ:=
 if a.2<(c.length:Int)then(ck (0<=a.2/\a.2<(c.length:Int)) (ck (0<=a.2/\a.2<(c.length:Int)) (ck (0<=a.2/\a.2<(c.length:Int)) (ck (0<=a.2/\a.2<(c.length:Int)) (ck (0<=a.2/\a.2<(c.length:Int)) (if((at' c a.2).2.1)=(2:Int)then(pH U c g b a d ((0:Int),(1:Int)))else(if((at' c a.2).2.1)=(3:Int)then(ck (0<=b.2/\b.2<(f.2.length:Int)) (pH U c g b a d ((-1:Int),(wI .i64 (((at' f.2 b.2).length:Int) - (1:Int))))))else(pH U c g b a d (((at' c a.2).2.2.1),(wI .i64 ((wI .i64 (((at' c a.2).2.2.2.1)+(wI .i64 (((at' c a.2).2.2.2.2.1)*(f.2.length:Int)))))+(wI .i64 (((at' c a.2).2.2.2.2.2)*h)))))))))))))else(CQ b e (a.1))
def lU (U:Nat) (c:cJ) (e:AX) (f:bT) (d:Int) (a:bQ×Int) (b:(bQ×Int)->Option bQ):Option bQ:=
 if a.2<(c.2.length:Int)then(bL (pI U c e f d a b) U (([]:bT),(0:Int)))else(yO (a.1))
def tA (U:Nat) (b:cJ) (c:AX) (d:bT) (a:Int):Option bQ:=
 bL (lU U b c d a) U (([]:bQ),(0:Int))
def yP (U:Nat) (c:cJ) (d:AX) (e:bT) (a:fF) (b:fW->Option bQ):Option bQ:=
 if a.2<(c.2.length:Int)then(ck (0<=a.2/\a.2<(c.1.length:Int)) (b ((max a.1 (at' c.1 a.2)),(wI .i64 (a.2+(1:Int))))))else(tA U c d e (a.1))
def kH (U:Nat) (a:cJ) (b:AX) (c:bT):Option bQ:=
 bL (yP U a b c) U ((0:Int),(0:Int))
theorem Xi:bB Tryz.prog 34:=Tryz.call34
theorem GN (U:Nat) {p:cJ} {s:AX} {u:bT} (W X:V0) (z2:kX) (F y:V0) (r:bQ) (h:kH U p s u=some r):
  bE Tryz.prog 34 #[Value.agg #[W,X],F,y] [Sl aM W p.1,S2 aY X z2 p.2,Sl aE F s,Sl aM y u] (λx:DN=>x.1) (λx l=>Ar bJ.raw x.1 x.2::fQ fT x.2 r::l) (λ_ l=>l):=by
 let k:=(p.2.length:Int)
 refine bE.of Tryz.func34 Z Tryz.ntmps34 Z λc=>?_;unfold kH at h;refine aU<|aJ (aQ.box (cs:=[W,X]) Z Z) Z λG=>let o:=bM G [W,X] 31;aC Z<|aP<|aU<|bV Z<|dK 0 Z<|aB (dM Z (mR Z) Z) Z<|aC Z<|aC Z<|aP<|aN<|eB (λm=>tA U p s u m=some r) (λm b4=>[(1,F),(2,y),(3,vP G),(7,vI k),(8,vI (m))]) (λm b4=>[o]) ?_ ?_
 ·refine aU<|aC Z<|aP<|aT<|eW (yP U p s u) (λf M=>[(1,F),(2,y),(3,vP G),(7,vI k),(8,vI (f.1)),(9,vI (f.2))]) (λf M=>[o]) ((0:Int),(0:Int)) () h SF (a_.refl _) ?_;intro ah f M h;refine aN<|aU<|aA Z<|aA Z<|cU Z<|aP ?_;refine eG h Z (λh=>?_) λh=>?_
  ·refine cL<|aN<|aT<|aR<|aA Z<|bV Z<|dK 0 Z<|aA Z<|cQ h λT h=>aB (bG Z Z (b_ Z) Z Z T) Z<|aB (cI Z (b_ Z) Z Z Z eZ T) Z<|aB (HB Z Z) Z<|aC Z<|eS<|lA<|aR<|aA Z<|cN Z<|aC Z<|aP ?_;exact xD ((max f.1 (at' p.1 f.2)),(wI .i64 (f.2+(1:Int)))) () h SF Z
  refine eP ?_;exact f_ (f.1) () h SF Z
 intro m b4 h;unfold tA at h;refine aU<|aC Z<|aP<|aN<|KC (B:=DN) (λK=>yO K=some r) (λK A=>[(10,A.1)]) (λK A=>[Ar bJ.raw A.1 A.2,fQ fT A.2 K]) ?_ ?_
 ·refine aU<|aC Z<|aP<|aT<|bZ (gC bJ.raw) (bZ (iJ fT) ?_);refine eW (B:=DN) (lU U p s u m) (λa b=>[(1,F),(2,y),(3,vP G),(7,vI k),(8,vI (m)),(10,b.1),(11,vI (a.2))]) (λa b=>[o,Ar bJ.raw b.1 b.2,fQ fT b.2 a.1]) (([]:bQ),(0:Int)) ((cW),([]:fL)) h SF (a_.ix [2,1,0] Z Z) ?_;intro aa a b h;let J:=fQ fT b.2 a.1;let I:=Ar bJ.raw b.1 b.2;let H:=(bL (lU U p s u m) aa)
  refine aN<|aU<|aA Z<|aA Z<|cU Z<|aP ?_;refine eG h Z (λh=>?_) λh=>?_
  ·refine cL<|aN<|aT<|aU<|aC Z<|aP<|aN<|KC (B:=V0) (λn=>CQ a H n=some r) (λn g=>[(1,F),(2,y),(3,vP G),(7,vI k),(8,vI (m)),(10,b.1),(11,vI (a.2)),(12,g)]) (λn g=>[o,I,J,Ar fT g n]) ?_ ?_
   ·refine aU<|aC Z<|aP<|aT<|bZ (gC fT)<|eW (B:=V0) (pI U p s u m a H) (λd j=>[(1,F),(2,y),(3,vP G),(7,vI k),(8,vI (m)),(10,b.1),(11,vI (a.2)),(12,j),(13,vI (d.2))]) (λd j=>[o,I,J,Ar fT j d.1]) (([]:bT),(0:Int)) (cW) h SF (a_.ix [1,2,3,0] Z Z) ?_;intro ab d j h;let w:=(at' s d.2)
    refine aN<|aU<|aA Z<|aA Z<|iL (zI Z) Z<|cU Z<|aP ?_;refine eG h Z (λh=>?_) λh=>?_
    ·refine cL<|aN<|aT<|aN ?_;refine rP [0,0,3,7,15,0,0,96,224,480,0,0,3072,7168,15360,0,64512,131040,0,0,786432,1835008,3932160,0,16515072,33554400,31,134217727] 27 mixedOrders ?_;refine aV Z<|aV Z<|cQ h λO h=>bA Z .nil (eV 2 Z) (bG Z Z (b_ Z) Z Z O) aL.z<|eN Z (dC Z Z Z Z Z)<|bA Z .nil (eV 2 Z) (eL Z (b_ Z) Z Z Z Bb O) aL.z<|aV Z<|aV Z<|cQ h λP h=>bA Z .nil (eV 2 Z) (bG Z Z (b_ Z) Z Z P) aL.z<|eN Z (dC Z Z Z Z Z)<|bA Z .nil (eV 2 Z) (eL Z (b_ Z) Z Z Z Bc P) aL.z<|aV Z<|aV Z<|cQ h λQ h=>bA Z .nil (eV 2 Z) (bG Z Z (b_ Z) Z Z Q) aL.z<|eN Z (dC Z Z Z Z Z)<|bA Z .nil (eV 2 Z) (eL Z (b_ Z) Z Z Z Bd Q) aL.z<|aV Z<|eN Z (xA Z Z)<|eN Z (zN Z Z)<|aV Z<|aV Z<|cQ h λR h=>bA Z .nil (eV 2 Z) (bG Z Z (b_ Z) Z Z R) aL.z<|eN Z (dC Z Z Z Z Z)<|bA Z .nil (eV 2 Z) (eL Z (b_ Z) Z Z Z Be R) aL.z<|aV Z<|eN Z (xA Z Z)<|eN Z (zN Z Z)<|eN Z (zO Z)<|bN 27 Z Z<|aC Z<|aP<|aN<|eB (λi=>pH U s u a d (bL (pI U p s u m a H) ab) i=some r) (λi L=>[(1,F),(2,y),(3,vP G),(7,vI k),(8,vI (m)),(10,b.1),(11,vI (a.2)),(12,j),(13,vI (d.2)),(14,vI (i.1)),(15,vI (i.2))]) (λi L=>[o,I,J,Ar fT j d.1]) ?_ ?_
     ·refine aU<|aA Z<|aA Z<|cQ h λS h=>aB (bG Z Z (zI Z) Z Z S) Z<|aB (dC Z Z Z Z Z) Z<|aB (eL Z (zI Z) Z Z Z lV S) Z<|aP<|aT<|aU<|cH Z<|aC Z<|aP ?_;refine eG h Z (λh=>?_) λh=>?_
      ·refine aR<|aC Z<|aC Z<|eS<|lA ?_;exact f_ ((0:Int),(1:Int)) () h SF Z
      refine aU<|cH Z<|aC Z<|aP ?_;refine eG h Z (λh=>?_) λh=>?_
      ·refine rP [0,1,0,7,15,31,63,0,255] 8 mixedOrders ?_;refine cC Z<|eQ 0 Z<|aV Z<|cQ h λt h=>bA Z .nil (eV 1 Z) (bK Z Z (b_ Z) Z Z t) aL.z<|bA Z .nil (eV 1 Z) (bS Z (b_ Z) Z Z t) aL.z<|bA Z .nil (eV 1 Z) (fH Z (zBc (b_ Z) t.1 t.2) Z) aL.z<|eN Z (nI Z Z)<|eN Z (zO Z)<|bN 8 Z Z<|aC Z<|eS<|lA ?_;exact f_ ((-1:Int),(wI .i64 (((at' p.2 a.2).length:Int) - (1:Int)))) () h SF Z
      refine dW<|lA ?_;exact f_ ((w.2.2.1),(wI .i64 ((wI .i64 ((w.2.2.2.1)+(wI .i64 ((w.2.2.2.2.1)*k))))+(wI .i64 ((w.2.2.2.2.2)*m))))) () h SF Z
     intro i L h;refine aR<|aA Z<|aA Z<|aA Z<|aA Z<|aA Z<|iL (zI Z) Z<|aB (xA Z Z) Z<|aA Z<|cN Z<|eI h λac af h=>aJ (zBb LA (DJ U y ac af) Z (iB [3] Z)) Z λak=>aA Z<|aA Z<|aB (nI Z Z) Z<|cN Z<|eI h λV ag h=>let v:=(wI .i64 (i.1+V));aJ (zBb El (kK U V ag) Z .nil) Z λal=>cN Z<|aJ (cX (e:=fT) ([v]) [(0,vI v)] Z Z Z Z (jU (vI v) Z) Z Z Z) Z λaj=>cQ h λY h=>aJ (jN 4 iY Z Z Z (dR (aI.res 0 Z) iY) Z Z Z Z Y Z) Z λae=>aC Z<|eS<|lA<|aR<|aA Z<|cN Z<|aC Z<|aP ?_
     exact iP ((d.1++([v])),(wI .i64 (d.2+(1:Int)))) (ae) h SF (a_.ix [1,2,3,4] Z Z) (aH.refl _ _)
    refine eP ?_;exact f_ (d.1) (j) h SF Z
   intro n g h;refine aR<|aA Z<|aA Z<|bZ (iJ fT)<|bD (Know.one ((dR (aI.res 4 Z) iY))) λE=>bZ (rX 0 4 Z Z Z) ?_;refine aJ (cX (e:=bJ.raw) [g] [(0,g)] Z Z Z Z (jU (g) E) Z Z (by simp[cellsOf,bJ.raw,E])) Z λai=>?_;refine bD (dQ 4 Z) λC=>bD (dQ 1 Z) λD=>cQ h λN h=>bZ (nP 4 1 Z Z Z) ?_;refine aJ (aQ.append 2 0 Z Z Z Z Z Z Z (by have q:=N;have q1:=C;have q2:=D;(try simp only[zA8,zAg]at q q1 q2 ⊢);omega) (by have q:=N;have q1:=C;have q2:=D;(try simp only[zA8,zAg]at q q1 q2 ⊢);omega) Z) Z λad=>?_;refine aC Z<|eS<|lA<|aR<|aA Z<|cN Z<|aC Z<|aP ?_;exact iP ((a.1++[n]),(wI .i64 (a.2+(1:Int)))) (ad,(b.2++[g])) h SF (a_.ix [1,2,3] Z Z) (aH.refl _ _)
  refine eP ?_;exact cB (a.1) (b.1,b.2) h SF (a_.ix [1,2] Z Z) (aH.refl _ _)
 intro K A h;unfold yO at h;refine aU<|aA Z<|aC Z<|aP<|aS ?_;cases h;exact kY (A.1,A.2) Z Z (RV.tmp Z) (a_.refl _) aH.nil
def tW (a:Unit):Option Bool:=
 some (true)
def tX (c d:bT) (a:Int) (b:(Int)->Option Bool):Option Bool:=
 if a<(c.length:Int)then(ck (0<=a/\a<(c.length:Int)) (ck (0<=a/\a<(d.length:Int)) (if(at' c a)≠(at' d a)then(some (false))else(b (wI .i64 (a+(1:Int)))))))else(tW (()))
def nU (U:Nat) (a b:bT):Option Bool:=
 if(a.length:Int)≠(b.length:Int)then(some (false))else(bL (tX a b) U (0:Int))
theorem SC:bB Tryz.prog 62:=Tryz.call62
theorem BN (U:Nat) {f g:bT} (i j:V0) (r:Bool) (h:nU U f g=some r):
  bE Tryz.prog 62 #[i,j] [Sl aM i f,Sl aM j g] (λx:Unit=>vB (r)) (λx l=>l) (λ_ l=>l):=by
 refine bE.of Tryz.func62 Z Tryz.ntmps62 Z λc=>?_;refine aU<|aC Z<|aP<|aN<|aU<|aA Z<|iL (b_ Z) Z<|aA Z<|iL (mR Z) Z<|lB Z<|aP ?_;refine eG h Z (λh=>?_) λh=>?_
 ·refine aU<|aC Z<|aP<|aS<|aG ?_;cases h;exact iR Z
 refine cL<|aN<|eB (λd=>tW d=some r) (λd k=>[]) (λd k=>[]) ?_ ?_
 ·refine aU<|aC Z<|aP<|aT<|eW (tX f g) (λe m=>[(0,i),(1,j),(5,vI (e))]) (λe m=>[]) (0:Int) () h SF (a_.refl _) ?_;intro n e m h;refine aN<|aU<|aA Z<|aA Z<|iL (b_ Z) Z<|cU Z<|aP ?_;refine eG h Z (λh=>?_) λh=>?_
  ·refine cL<|aN<|aT<|aN ?_;refine rP [0,0,3,7,0,0,48,112,255] 8 mixedOrders ?_;refine aV Z<|aV Z<|cQ h λa h=>bA Z .nil (eV 0 Z) (bG Z Z (b_ Z) Z Z a) aL.z<|bA Z .nil (eV 0 Z) (cI Z (b_ Z) Z Z Z eZ a) aL.z<|aV Z<|aV Z<|cQ h λb h=>bA Z .nil (eV 1 Z) (bG Z Z (b_ Z) Z Z b) aL.z<|bA Z .nil (eV 1 Z) (cI Z (b_ Z) Z Z Z eZ b) aL.z<|bN 8 Z Z<|lB Z<|aP ?_;refine eG h Z (λh=>?_) λh=>?_
   ·refine aU<|aC Z<|aP<|aS<|bF<|aG<|aG<|bF<|aG ?_;cases h;exact iR Z
   refine dW<|lA<|aR<|aA Z<|cN Z<|aC Z<|aP ?_;exact xD (wI .i64 (e+(1:Int))) () h SF Z
  refine eP ?_;exact f_ () (()) h SF Z
 intro d k h;unfold tW at h;refine aU<|aC Z<|aP<|aS ?_;cases h;exact iR Z
end Go.Proofs.YtflciafboapaaaaGreat