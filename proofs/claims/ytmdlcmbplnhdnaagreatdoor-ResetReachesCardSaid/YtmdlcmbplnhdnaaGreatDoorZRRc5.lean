/- Models and proofs. Conditions: none. -/
import Derived.Test.YtmdlcmbplnhdnaaGreatDoorZRRc4
import Derived.Test.YtmdlcmbplnhdnaaGreatDoorZRRc2
set_option linter.unusedVariables false
set_option linter.unusedSimpArgs false
set_option maxHeartbeats 4000000
set_option maxRecDepth 20000
namespace Go.Gx
open Go Go.Sx
section
variable {P:Program} {gs:zN} {w0:eV gs} {w:World} {ρ:dX} {H:GH}
theorem CK {f:Nat} {a:List Value} {L:List bA} {V:Value} {g:GV} (c:aV P f) (d:aX P f a.toArray L (λ_:Unit=>V) (λ_ l=>l) (λ_ l=>l)) (R:fQ w0 ρ H w) (b:∀h∈L,h.p w All) (i:∀ρ,Rl ρ g V):kI P w0 ρ f a w g H:=by
 refine .inr ⟨c _ w,(d w All b).mono ?_⟩;rintro e j ⟨_,rfl,t⟩;exact⟨V,ρ,rfl,dX.le_refl _,R.ext' t.old.ext,i _⟩
theorem Sc {V W:Type} {e:cZ V} {g:V->List GV} {q:cZ W} {s:W->List GV} (hg:∀ρ x,pE ρ (g x) (e.enc x)) (I:∀ρ x,pE ρ (s x) (q.enc x)) {f:Nat} {S:List Value} {L:List bA} {r:List V×List (List W)} (C:r.1≠[]) (D:r.2≠[]) (h3:∀U∈r.2,U≠[]) (hb:aV P f)
  (hm:aX P f S.toArray L (λx:Value×Value×List Value=>Value.agg #[x.1,x.2.1]) (λx l=>Ar e x.1 r.1::Ar cZ.raw x.2.1 x.2.2::lD q x.2.2 r.2::l) (λ_ l=>l)) (R:fQ w0 ρ H w) (hL:∀h∈L,h.p w All):
  kI P w0 ρ f S w (.agg [.sl H.n 0 r.1.length e.sz,.sl (vA q.sz s r.2 (H.new (.cells (r.1.flatMap g)))).2.n 0 r.2.length 1]) ((vA q.sz s r.2 (H.new (.cells (r.1.flatMap g)))).2.new (.cells (vA q.sz s r.2 (H.new (.cells (r.1.flatMap g)))).1)):=by
 refine .inr ⟨hb _ w,(hm w All hL).mono ?_⟩;rintro en A ⟨x,rfl,t⟩;obtain⟨F,O,_⟩:=t.own;have q0:Dl _ A (F 0) x.1 r.1:=O.res 0 _ Z;have q1:Dl cZ.raw A (F 1) x.2.1 x.2.2:=O.res 1 _ Z;obtain⟨z,G,q2,Q,q4⟩:(lD q x.2.2 r.2).p A (F 2):=O.res 2 _ Z;have R':=R.ext' t.old.ext;have E:∀i k,F i k->w.heap.size<=k:=λi k c=>by
  rcases(O.rng i k c).1 with h|h
  ·exact h
  exact h.elim
 obtain⟨X,y,R1,K,A1⟩:=HG (B:=λk=>w.heap.size<=k) R' (λa o l C D=>Ff.start R a o l C D) (λk c=> .inl (Nat.le_trans R.ext.size c)) (E 0) q0 C (Ns (hg ρ) r.1);obtain⟨ad,j,R2,M,A2⟩:=Km I r.2 x.2.2 G _ X _ R1 A1 (λk c=> .inl (Nat.le_trans R.ext.size c.1)) z h3 q2 (λi k c=>⟨E _ _ (Q i k c),λu=>by have:=O.dis _ _ k (Q i k c) u;omega⟩) q4;have J:x.2.2≠[]:=λu=>by rw[u]at z;exact D (List.eq_nil_of_length_eq_zero z.symm)
 obtain⟨Y,m,R3,N,_⟩:=HG (cs:=(vA q.sz s r.2 (H.new (.cells (r.1.flatMap g)))).1) (F:=F 1) R2 A2 (λk c=> .inl (Nat.le_trans R.ext.size c.1.1)) (λk c=>⟨⟨E _ _ c,λu=>by have:=O.dis _ _ k c u;omega⟩,λi hi=>by have:=O.dis _ _ k c (Q i k hi);omega⟩) q1 J (by rw[Mi];exact M);refine⟨_,Y,rfl,dX.le_trans y (dX.le_trans j m),R3,?_⟩
 refine Gk (vs:=[x.1,x.2.1]) (.cons ((K.le j).le m) (.cons (by rw[<-z];exact N) .nil)) λv hv=>?_;have d:∀{γ:Type} {e:cZ γ} {F:Nat->Prop} {v:Value} {U:List γ},Dl e A F v U->one v=true:=λh=>by
  obtain⟨_,_,h⟩:=h;rcases h with⟨rfl,_⟩|⟨b,ac,aa,T,ab,rfl,_⟩<;>rfl
 simp at hv;rcases hv with rfl|rfl
 ·exact d q0
 exact d q1
end
noncomputable section
def LN (H:GH) (v:GV):Option (List Int):=Np H 1 (dI .i64) v
def Xq (H:GH) (v:GV):Option (List (List (Int×Int))):=Np H 1 (dS H 2 (dP 1 (dI .i64) (dI .i64))) v
def acp (H:GH) (v:GV):Option (List (List Int)):=Np H 1 (dS H 1 (dI .i64)) v
def RJ (H:GH) (v:GV):Option (List Int×List (List (Int×Int))):=ob v.asA λc=>List.casesOn (motive:=λ_=>Option (List Int×List (List (Int×Int)))) c none λa r=>List.casesOn (motive:=λ_=>Option (List Int×List (List (Int×Int)))) r none λb r=>List.casesOn (motive:=λ_=>Option (List Int×List (List (Int×Int)))) r (ob (LN H a) λx=>ob (Xq H b) λy=>some (x,y)) λ_ _=>none
end
section
variable {P:Program} {gs:zN} {w0:eV gs} {w:World} {ρ:dX} {H:GH}
theorem Gv (R:fQ w0 ρ H w) {v:GV} {V:Value} {a:List Int} (b:Rl ρ v V) (h:LN H v=some a):(Sl (eH.int .i64) V a).p w All:=by
 obtain⟨d,rfl,c⟩:=CB R (λ_ _=>trivial) (iG.int .i64) b h;rw[List.map_id];exact c
theorem Xp (R:fQ w0 ρ H w) {v:GV} {V:Value} {b:List (List Int)} (c:Rl ρ v V) (h:acp H v=some b):∃a,(S2 (eH.int .i64) V a b).p w All:=by
 obtain⟨a,rfl,d⟩:=CB R (λ_ _=>trivial) (iG.sl R (λ_ _=>trivial) (iG.int .i64)) c h;exact⟨a,d,by simp⟩
theorem Vi (R:fQ w0 ρ H w) {v:GV} {V:Value} {b:List (List (Int×Int))} (c:Rl ρ v V) (h:Xq H v=some b):∃a,(S2 (eH.pair (eH.int .i64) (eH.int .i64)) V a b).p w All:=by
 obtain⟨a,rfl,d⟩:=CB R (λ_ _=>trivial) (iG.sl R (λ_ _=>trivial) (iG.pair (iG.int .i64) (iG.int .i64))) c h;exact⟨a,d,by simp⟩
theorem LM (R:fQ w0 ρ H w) {v:GV} {V:Value} {p:List Int×List (List (Int×Int))} (j:Rl ρ v V) (h:RJ H v=some p):∃e f i,V = .agg #[e,f]∧(Sl (eH.int .i64) e p.1).p w All∧(S2 (eH.pair (eH.int .i64) (eH.int .i64)) f i p.2).p w All:=by
 obtain⟨c,g,h⟩:=aD.1 (show ob v.asA _=some p from h);rw[JI g]at j;obtain⟨k,rfl,d,_⟩:=j.agg_inv;cases c with
 |nil=>cases h
 |cons a c=>
 cases c with
 |nil=>cases h
 |cons b c=>
 cases c with
 |cons _ _=>cases h
 |nil=>
 obtain⟨x,n,h⟩:=aD.1 (show ob (LN H a) _=some p from h);obtain⟨y,o,h⟩:=aD.1 h;cases h;obtain⟨e,k,rfl,l,d⟩:=d.of_cons;obtain⟨f,k,rfl,m,d⟩:=d.of_cons;rw[d.of_nil];obtain⟨i,q⟩:=Vi R m o;exact⟨e,f,i,rfl,Gv R l n,q⟩
end
noncomputable section
section
variable {α R:Type}
def a0 (a:List α) (k:Option R):Option R:=List.casesOn (motive:=λ_=>Option R) a k (λ_ _=>none)
def a1 (b:List α) (k:α->Option R):Option R:=List.casesOn (motive:=λ_=>Option R) b none λa r=>a0 r (k a)
def a2 (b:List α) (k:α->α->Option R):Option R:=List.casesOn (motive:=λ_=>Option R) b none λa r=>a1 r (k a)
def a3 (b:List α) (k:α->α->α->Option R):Option R:=List.casesOn (motive:=λ_=>Option R) b none λa r=>a2 r (k a)
def a4 (b:List α) (k:α->α->α->α->Option R):Option R:=List.casesOn (motive:=λ_=>Option R) b none λa r=>a3 r (k a)
def a5 (us:List α) (k:α->α->α->α->α->Option R):Option R:=List.casesOn (motive:=λ_=>Option R) us none λa r=>a4 r (k a)
def a6 (b:List α) (k:α->α->α->α->α->α->Option R):Option R:=List.casesOn (motive:=λ_=>Option R) b none λa r=>a5 r (k a)
theorem ZY {a:List α} {k:Option R} {r:R} (h:a0 a k=some r):a=[]∧k=some r:=by
 cases a with
 |nil=>exact⟨rfl,h⟩
 |cons _ _=>cases h
theorem Tf {a:List α} {k:α->Option R} {r:R} (h:a1 a k=some r):∃x,a=[x]∧k x=some r:=by
 cases a with
 |nil=>cases h
 |cons x a=>obtain⟨rfl,h⟩:=ZY h;exact⟨x,rfl,h⟩
theorem MZ {a:List α} {k:α->α->Option R} {r:R} (h:a2 a k=some r):∃x y,a=[x,y]∧k x y=some r:=by
 cases a with
 |nil=>cases h
 |cons x a=>obtain⟨y,rfl,h⟩:=Tf h;exact⟨x,y,rfl,h⟩
theorem ZZ {a:List α} {k:α->α->α->Option R} {r:R} (h:a3 a k=some r):∃x y z,a=[x,y,z]∧k x y z=some r:=by
 cases a with
 |nil=>cases h
 |cons x a=>obtain⟨y,z,rfl,h⟩:=MZ h;exact⟨x,y,z,rfl,h⟩
theorem M_ {a:List α} {k:α->α->α->α->Option R} {r:R} (h:a4 a k=some r):∃x y z u,a=[x,y,z,u]∧k x y z u=some r:=by
 cases a with
 |nil=>cases h
 |cons x a=>obtain⟨y,z,u,rfl,h⟩:=ZZ h;exact⟨x,y,z,u,rfl,h⟩
theorem Z_ {a:List α} {k:α->α->α->α->α->Option R} {r:R} (h:a5 a k=some r):∃x y z u v,a=[x,y,z,u,v]∧k x y z u v=some r:=by
 cases a with
 |nil=>cases h
 |cons x a=>obtain⟨y,z,u,v,rfl,h⟩:=M_ h;exact⟨x,y,z,u,v,rfl,h⟩
theorem aaa {a:List α} {k:α->α->α->α->α->α->Option R} {r:R} (h:a6 a k=some r):∃x y z u v w,a=[x,y,z,u,v,w]∧k x y z u v w=some r:=by
 cases a with
 |nil=>cases h
 |cons x a=>obtain⟨y,z,u,v,w,rfl,h⟩:=Z_ h;exact⟨x,y,z,u,v,w,rfl,h⟩
end
def dSc (k:IntKind) (v:GV):Option Int:=ob v.asI λp=>bif eqK p.1 k then some p.2 else none
def Xr (H:GH) (v:GV):Option (List Int):=Np H 1 (dI .u32) v
def agH (H:GH) (v:GV):Option (Int×List Int×List Int×List Int×Bool×Bool):=ob v.asA λg=>a6 g λa b c d e f=>ob (dSc .i64 a) λn=>ob (LN H b) λx=>ob (LN H c) λy=>ob (LN H d) λz=>ob e.asB λp=>ob f.asB λq=>some (n,x,y,z,p,q)
def gI (n:Int):List GV:=[.int .i64 n]
def gP (p:Int×Int):List GV:=[.int .i64 p.1,.int .i64 p.2]
def fcI {R:Type} (l:List Int):(List Int->R)->R:=List.rec (motive:=λ_=>(List Int->R)->R) (λk=>k []) (λx _ a k=>fi x λx=>a λr=>k (x::r)) l
def fcP {R:Type} (l:List (Int×Int)):(List (Int×Int)->R)->R:=List.rec (motive:=λ_=>(List (Int×Int)->R)->R) (λk=>k []) (λx _ c k=>fi x.1 λa=>fi x.2 λb=>c λr=>k ((a,b)::r)) l
def fcR {R:Type} (l:List (List (Int×Int))):(List (List (Int×Int))->R)->R:=List.rec (motive:=λ_=>(List (List (Int×Int))->R)->R) (λk=>k []) (λx _ a k=>fcP x λx=>a λr=>k (x::r)) l
theorem XF {R:Type}:∀(l:List Int) (k:List Int->R),fcI l k=k l
 | [],k=>rfl
 |x::l,k=>by
  show fi x (λx=>fcI l λr=>k (x::r))=_;rw[LW,XF l]
theorem XG {R:Type}:∀(l:List (Int×Int)) (k:List (Int×Int)->R),fcP l k=k l
 | [],k=>rfl
 |x::l,k=>by
  show fi x.1 (λa=>fi x.2 λb=>fcP l λr=>k ((a,b)::r))=_;rw[LW,LW,XG l]
theorem XH {R:Type}:∀(l:List (List (Int×Int))) (k:List (List (Int×Int))->R),fcR l k=k l
 | [],k=>rfl
 |x::l,k=>by
  show fcP x (λx=>fcR l λr=>k (x::r))=_;rw[XG,XH l]
def Uc (b:Bool) (H:GH):OR:=Bool.casesOn (motive:=λ_=>OR) b (some (.bool false,H)) (some (.bool true,H))
def Sw (r:List Int×List (List (Int×Int))) (H:GH):OR:=fcI r.1 λx=>fcR r.2 λy=>bif Nat.beq x.length 0 then none else bif Nat.beq y.length 0 then none else bif y.any λl=>Nat.beq l.length 0 then none else
 fc (x.flatMap gI) λl=>H.newK (.cells l) λh a=>fc (vA 2 gP y a).1 λd=>sn x.length λn=>sn y.length λm=>(vA 2 gP y a).2.newK (.cells d) λc b=>some (.agg [.sl h 0 n 1,.sl c 0 m 1],b)
end
section
variable {P:Program} {gs:zN} {w0:eV gs} {w:World} {ρ:dX} {H H':GH} {g:GV}
theorem pE.one {x:GV} {vs:List Value} (h:pE ρ [x] vs):∃V,vs=[V]∧Rl ρ x V:=by
 obtain⟨v,vs,rfl,a,b⟩:=h.of_cons;rw[b.of_nil];exact⟨v,rfl,a⟩
theorem DV {k:IntKind} {v:GV} {V:Value} {n:Int} (a:Rl ρ v V) (h:dSc k v=some n):V = .int k n:=by
 obtain⟨p,c,h⟩:=aD.1 (show ob v.asI _=some n from h);obtain⟨b,h⟩:=bN.1 h;cases h;rw[oD c]at a;rw[a.int_inv,HC b]
theorem WL {v:GV} {V:Value} {b:Bool} (a:Rl ρ v V) (h:v.asB=some b):V = .bool b:=by
 rw[BJ h]at a;exact a.bool_inv
theorem Po (R:fQ w0 ρ H w) {v:GV} {V:Value} {a:List Int} (b:Rl ρ v V) (h:Xr H v=some a):(Sl (eH.int .u32) V a).p w All:=by
 obtain⟨d,rfl,c⟩:=CB R (λ_ _=>trivial) (iG.int .u32) b h;rw[List.map_id];exact c
theorem aaO (R:fQ w0 ρ H w) {v:GV} {V:Value} {p:Int×List Int×List Int×List Int×Bool×Bool} (l:Rl ρ v V) (h:agH H v=some p):
  ∃m o s,V = .agg #[.int .i64 p.1,m,o,s,.bool p.2.2.2.2.1,.bool p.2.2.2.2.2]∧(Sl (eH.int .i64) m p.2.1).p w All∧(Sl (eH.int .i64) o p.2.2.1).p w All∧(Sl (eH.int .i64) s p.2.2.2.1).p w All:=by
 obtain⟨T,k,h⟩:=aD.1 (show ob v.asA _=some p from h);obtain⟨a,b,c,d,e,f,rfl,h⟩:=aaa h;obtain⟨n,I,h⟩:=aD.1 h;obtain⟨x,L,h⟩:=aD.1 h;obtain⟨y,M,h⟩:=aD.1 h;obtain⟨z,N,h⟩:=aD.1 h;obtain⟨q,J,h⟩:=aD.1 h;obtain⟨r,K,h⟩:=aD.1 h;cases h;rw[JI k]at l;obtain⟨j,rfl,i,_⟩:=l.agg_inv;obtain⟨U,j,rfl,B,i⟩:=i.of_cons;obtain⟨O,j,rfl,C,i⟩:=i.of_cons;obtain⟨Q,j,rfl,D,i⟩:=i.of_cons;obtain⟨S,j,rfl,E,i⟩:=i.of_cons;obtain⟨W,j,rfl,F,i⟩:=i.of_cons;obtain⟨X,rfl,G⟩:=i.one;have t:=DV B I;have u:=WL F J;have A:=WL G K;subst t u A;exact⟨O,Q,S,rfl,Gv R C L,Gv R D M,Gv R E N⟩
theorem FK {b:Bool} (h:Uc b H=some (g,H')):g = .bool b∧H'=H:=by
 cases b<;>cases h<;>exact⟨rfl,rfl⟩
theorem PQ {r:List Int×List (List (Int×Int))} (h:Sw r H=some (g,H')):r.1≠[]∧r.2≠[]∧(∀a∈r.2,a≠[])∧
  g = .agg [.sl H.n 0 r.1.length 1,.sl (vA 2 gP r.2 (H.new (.cells (r.1.flatMap gI)))).2.n 0 r.2.length 1]∧H'=(vA 2 gP r.2 (H.new (.cells (r.1.flatMap gI)))).2.new (.cells (vA 2 gP r.2 (H.new (.cells (r.1.flatMap gI)))).1):=by
 unfold Sw at h;rw[XF,XH]at h;obtain⟨b,h⟩:=kX.1 h;obtain⟨c,h⟩:=kX.1 h;obtain⟨d,h⟩:=kX.1 h;rw[TI,jD,TI,wK,wK,jD]at h;cases h;refine⟨λe=>(by rw[e]at b;cases b),λe=>(by rw[e]at c;cases c),λa f e=>?_,rfl,rfl⟩
 have:=List.any_eq_false.1 d a f;rw[e]at this;exact this Z
theorem agM (ρ:dX) (x:Int):pE ρ (gI x) [.int .i64 x]:= .cons (.int _ _) .nil
theorem agN (ρ:dX) (x:Int×Int):pE ρ (gP x) [.int .i64 x.1,.int .i64 x.2]:= .cons (.int _ _) (.cons (.int _ _) .nil)
def glb (b:Nat) (a:List Value) (T:Nat):zN:=⟨[(b,.cells a.toArray T (0,0))],[]⟩
theorem XO {b:Nat} {a:List Value} (w:World) (S:Nat->Prop) (h:∀h∈[Gb b a],h.p w S):∃T,Ic (glb b a T) w λ_=>False:=by
 obtain⟨_,T,c⟩:=h _ (List.mem_singleton.2 Z);exact⟨T,λp d=>by obtain rfl:=List.mem_singleton.1 d;exact⟨c,id⟩⟩
theorem fQ.glb {b:Nat} {a:List Value} {T:Nat} {c:eV (glb b a T)} {w:World} {ρ:dX} {H:GH} (R:fQ c ρ H w):(Gb b a).p w All:=⟨trivial,T,(R.glo _ (List.mem_singleton.2 Z)).1⟩
theorem NG {gs:Nat->zN} {f:Nat} {V:Value} {L:List bA} (q:∀w S,(∀h∈L,h.p w S)->∃T,Ic (gs T) w λ_=>False) (r:aV P f) (y:∀ρ d,Rl ρ g d->d=V) (h:∀T (b:eV (gs T)),kI P b (λ_=>none) f [] b.w g H'):aX P f #[] L (λ_:Unit=>V) (λ_ l=>l) (λ_ l=>l):=by
 intro w0 o z;obtain⟨T,n⟩:=q w0 o z;rcases h T (.of w0 n)with⟨v,A,c,a,_⟩|⟨_,s⟩
 ·have x:=r #[] w0;rw[show([]:List Value).toArray = #[]from rfl]at a;rw[show(eV.of w0 n).w=w0 from rfl,x]at a;cases a
 refine s.mono ?_;rintro e A ⟨v,c,rfl,_,R,a⟩;exact⟨(),by rw[y _ _ a],R.ext,λ_ _=>False,⟨λi m u=>by simp at u,λi k h=>h.elim,λi j k h=>h.elim⟩,λf t=>by simp at t⟩
section
variable {tb:TB} {T:TypeId}
theorem Tj (h:BW tb T=some [yB]) (H:GH):nQ tb T H=some (.ptr H.n 0,H.new (.cells [yB])):=by
 unfold nQ;rw[h];show H.newK (.cells [yB]) (λh H'=>some (GV.ptr h 0,H'))=_;rw[jD]
theorem Uq {t:Ty} (h:tb T=some t) (e:t.size=1) (H:GH) (k:Nat) (c:GV) (d:GH.cells H k=some [c]):mK tb T (.ptr k 0) yB H=some (.un,H.set k (.cells [yB])):=by
 show ob (H.cells k) (λb=>ob (tb T) λt=>bif Nat.beq 1 t.size then bif Nat.beq t.size 0 then none else ob (Gz [yB] 0 b) λa=>H.setK k (.cells a) λH'=>some (GV.un,H')else none)=_;rw[d,h];show(bif Nat.beq 1 t.size then bif Nat.beq t.size 0 then none else ob (Gz [yB] 0 [c]) λa=>H.setK k (.cells a) λH'=>some (GV.un,H')else none)=_;rw[e];show H.setK k (.cells [yB]) (λH'=>some (GV.un,H'))=_;rw[yI]
theorem Yn {t:Ty} (h:tb T=some t) (b:wT t.desc=false) (H:GH) (k:Nat) (c:GH.cells H k=some [yB]):uS tb T (.ptr k 0) H=some yB:=by
 show ob (H.cells k) (λa=>ob (tb T) λt=>BD t a 0)=_;rw[c,h];show BD t [yB] 0=_;unfold BD;rw[b];rfl
end
def Nl (a:Func):List Oper:=match a.body with
 |some (.seq (.region _ ops _) _)=>ops.toList
 |_=>[]
def Xe (a:Func):Code:=match a.body with
 |some (.seq _ c)=>c
 |_=> .skip
def aaK (a:Func):Nat:=match Nl a with
 |o::_=>o.dst.getD 0
 | []=>0
def okN (r:RS):Bool:=match r with
 |some o=>match o.e with
  | .normal=>true
  |_=>false
 |none=>false
theorem YC {r:RS} (h:okN r=true):∃a,r=some a∧a.e = .normal:=by
 unfold okN at h;cases r with
 |none=>cases h
 |some o=>
  refine⟨o,rfl,?_⟩
  cases b:o.e<;>simp only[b]at h<;>first|rfl|cases h
def okT (r:OR):Bool:=match r with
 |some (.bool true,_)=>true
 |_=>false
theorem YD {r:OR} (h:okT r=true):∃H',r=some (.bool true,H'):=by
 unfold okT at h;split at h
 ·exact⟨_,rfl⟩
 ·cases h
end
end Go.Gx
namespace Go.Proofs.YtmdlcmbplnhdnaaGreatDoor
open Go.Sx
def nX  (a:Unit):Option (Bool):=
 some (true)
def iV (d:aS) (a:Int×List (Bool)) (c:(Int×List (Bool))->Option (Bool)) (b:Bool):Option (Bool):=
 if b=true then(some (false))else(ck ((0<=(at' d a.1)∧(at' d a.1)<((256:Nat):Int))∧List.length a.2=256) (c ((wI .i64 (a.1+(1:Int))),(List.set a.2 (Int.toNat (at' d a.1)) true))))
def gJ (b:aS) (a:Int×List (Bool)) (c:(Int×List (Bool))->Option (Bool)):Option (Bool):=
 if a.1<(List.length b:Int)then(ck (0<=a.1∧a.1<(List.length b:Int)) (if(at' b a.1)<(0:Int)then(iV b a c (true))else(if(255:Int)<(at' b a.1)then(iV b a c (true))else(ck ((0<=(at' b a.1)∧(at' b a.1)<((256:Nat):Int))∧List.length a.2=256) (iV b a c ((at' a.2 (at' b a.1))))))))else(nX  (()))
def jO (U:Nat) (a:aS):Option (Bool):=
 bI (gJ a) U ((0:Int),(List.replicate 256 false))
theorem aal:aV Tryz.prog 116:=Tryz.call116
theorem Em (U:Nat) {d:aS} (n:Value) (r:Bool) (h:jO U d=some r):
  aX Tryz.prog 116 #[n] [Sl bP n d] (λx:Unit=>vB (r)) (λx l=>l) (λ_ l=>l):=by
 refine aX.of Tryz.func116 Z Tryz.ntmps116 Z λc=>?_;unfold jO at h;refine aW<|aC Z<|aM<|aW ?_;refine aG (aN.alloc (cs:=cellsOf ZA (List.replicate 256 false)) Z (by kernel_rfl)) Z λm=>?_;refine aM<|aK<|eD (λk=>nX  k=some r) (λk o=>[]) (λk o=>[]) ?_ ?_
 ·refine aW<|aA Z<|jB (aE.fact 0 Z) Z<|aA Z<|aM<|aT<|dZ (gJ d) (λa p=>[(3,vP m),(6,n),(7,vI (List.length d:Int)),(8,vI (a.1))]) (λa p=>[bV m (cellsOf ZA a.2) 204]) ((0:Int),(List.replicate 256 false)) () h SF (aY.refl _) ?_;intro q a p h;refine aW<|cO Z<|aM<|aK ?_;refine fE h Z (λh=>?_) λh=>?_
  ·refine cK<|aK<|aT<|aW<|dD h λg h=>aB (aZ Z Z (aE.fact 0 Z) Z Z g) Z<|aB (bX Z (aE.fact 0 Z) Z Z Z dG g) Z<|aC Z<|aM<|aK<|aK<|eD (λb=>iV d a (bI (gJ d) q) b=some r) (λb f=>[(3,vP m),(5,vI (at' d a.1)),(6,n),(7,vI (List.length d:Int)),(8,vI (a.1)),(22,vB (b))]) (λb f=>[bV m (cellsOf ZA a.2) 204]) ?_ ?_
   ·refine aO<|aA Z<|cO Z<|aA Z ?_;refine Dy h Z (λ_ h=>?_) λ_ h=>?_
    ·refine aH Z<|aH Z<|dO Z<|aA Z<|aH Z<|aH Z<|aH Z<|dO Z<|aM ?_;exact gM (true) () h SF Z
    refine cR Z<|aP Z (wS Z Z) Z<|fI Z<|aA Z ?_;refine Dy h Z (λ_ h=>?_) λ_ h=>?_
    ·refine aH Z<|aH Z<|aH Z<|dO Z<|aM ?_;exact gM (true) () h SF Z
    refine cR Z<|dD h λj h=>aP Z (o_ Z Z Z Z Z j.1) Z<|aP Z (UQ (e:=ZA) Z (aE.res 0 Z) Z Z Z Z j) Z<|fI Z<|aM ?_;exact gM ((at' a.2 (at' d a.1))) () h SF Z
   intro b f h;refine Ab h Z (λ_ h=>?_) λ_ h=>?_
   ·refine aW<|aC Z<|aM<|aU<|aI<|bL<|aI<|aI<|bL<|aI ?_;cases h;exact sE Z
   refine cK<|aO<|aA Z<|dD h λi h=>aB (o_ Z Z Z Z Z i.1) Z<|Jt 0 (e:=ZA) true i Z Z Z Z Z Z Z<|eT<|mQ<|aO<|cI Z<|aA Z<|aM ?_;exact yX ((wI .i64 (a.1+(1:Int))),(List.set a.2 (Int.toNat (at' d a.1)) true)) () h SF Z
  refine fH ?_;exact cL () (()) h SF .nil (aF.refl _ _)
 intro k o h;unfold nX at h;refine aW<|aC Z<|aM<|aU ?_;cases h;exact kV Z
def vW (c:(List ((Int×Int)×Int))) (a:(Int×Int)×Int) (b:Option (Bool)):Option (Bool):=
 if(Option.getD (mT (a.1.2,a.1.1) c) (0:Int))≠a.2 then(some (false))else(b)
def jF  (a:(List ((Int×Int)×Int))):Option (Bool):=
 Lm (vW a) (some (true)) a
def m_ (b:Iy) (a:My->Option (Bool)) (c:(List ((Int×Int)×Int))):Option (Bool):=
 a ((wI .i64 (b.1+(1:Int))),c)
def jG (e:fP) (b:Iy) (a:Iy) (c:My->Option (Bool)) (d:Bool):Option (Bool):=
 if d=true then(some (false))else(if(Option.isSome (mT (b.1,((at' (at' e b.1) a.1).1)) a.2))=true then(some (false))else(c ((wI .i64 (a.1+(1:Int))),(CP (b.1,((at' (at' e b.1) a.1).1)) ((at' (at' e b.1) a.1).2) a.2))))
def h_ (d:fP) (a:Iy) (b:Iy) (c:My->Option (Bool)) (e:Bool):Option (Bool):=
 if e=true then(some (false))else(if((at' (at' d a.1) b.1).2)<(1:Int)then(jG d a b c (true))else(jG d a b c (decide ((15:Int)<((at' (at' d a.1) b.1).2)))))
def cJ (d:fP) (a:Iy) (e:My->Option (Bool)) (b:Iy) (c:My->Option (Bool)):Option (Bool):=
 if b.1<(List.length (at' d a.1):Int)then(ck (0<=b.1∧b.1<(List.length (at' d a.1):Int)) (if((at' (at' d a.1) b.1).1)<(0:Int)then(h_ d a b c (true))else(if(List.length d:Int)<=((at' (at' d a.1) b.1).1)then(h_ d a b c (true))else(h_ d a b c (decide (((at' (at' d a.1) b.1).1)=a.1))))))else(m_ a e (b.2))
def cX (U:Nat) (c:fP) (a:Iy) (b:My->Option (Bool)):Option (Bool):=
 if a.1<(List.length c:Int)then(ck (0<=a.1∧a.1<(List.length c:Int)) (bI (cJ c a b) U ((0:Int),a.2)))else(jF  (a.2))
def gT (U:Nat) (a:fP):Option (Bool):=
 bI (cX U a) U ((0:Int),([]:List ((Int×Int)×Int)))
theorem aam:aV Tryz.prog 117:=Tryz.call117
theorem He (U:Nat) {f:fP} (n:Value)  (F:kH) (r:Bool) (h:gT U f=some r):
  aX Tryz.prog 117 #[n] [S2 a_ n F f] (λx:Unit=>vB (r)) (λx l=>l) (λ_ l=>l):=by
 refine aX.of Tryz.func117 Z Tryz.ntmps117 Z λc=>?_;unfold gT at h;refine aW<|aC Z<|aM<|aW<|aG (aN.makeMap nR QD) Z λk=>aC Z<|aM<|aK<|eD (λq=>jF  q=some r) (λq H=>[(3,Value.map (some k))]) (λq H=>[Mp nR QD k q]) ?_ ?_
 ·refine aW<|aA Z<|aB (iY Z (aE.fact 0 Z) Z) Z<|aA Z<|aM<|aT<|dZ (cX U f) (λd y=>[(0,n),(3,Value.map (some k)),(14,n),(15,vI (List.length f:Int)),(16,vI (d.1))]) (λd y=>[Mp nR QD k d.2]) ((0:Int),([]:List ((Int×Int)×Int))) () h SF (aY.refl _) ?_;intro t d y h;refine aW<|cO Z<|aM<|aK ?_;refine fE h Z (λh=>?_) λh=>?_
  ·refine cK<|aK<|eD (λm=>m_ d (bI (cX U f) t) m=some r) (λm z=>[(0,n),(3,Value.map (some k)),(14,n),(15,vI (List.length f:Int)),(16,vI (d.1))]) (λm z=>[Mp nR QD k m]) ?_ ?_
   ·refine aT<|aW<|aA Z<|dD h λj h=>aB (cH Z Z (aE.fact 0 Z) Z Z j) Z<|aB (cG Z (aE.fact 0 Z) Z Z j) Z<|aC Z<|aC Z<|aM<|aW<|aA Z<|aB (gW Z (aE.el (aE.fact 0 Z) j.1 j.2) Z) Z<|aA Z<|aM<|aT<|dZ (cJ f d (bI (cX U f) t)) (λe A=>[(0,n),(3,Value.map (some k)),(4,vI (d.1)),(14,n),(15,vI (List.length f:Int)),(16,vI (d.1)),(21,(at' F d.1).1),(22,vI (List.length (at' f d.1):Int)),(23,vI (e.1))]) (λe A=>[Mp nR QD k e.2]) ((0:Int),d.2) () h SF (aY.refl _) ?_;intro E e A h;refine aW<|cO Z<|aM<|aK ?_;refine fE h Z (λh=>?_) λh=>?_
    ·refine cK<|aK<|aT<|aW<|dD h λD h=>aB (aZ Z Z (aE.el (aE.fact 0 Z) j.1 j.2) Z Z D) Z<|aB (iM (cs:=[vI ((at' (at' f d.1) e.1).1),vI ((at' (at' f d.1) e.1).2)]) Z (aE.el (aE.fact 0 Z) j.1 j.2) bR Z Z Z Z D) Z<|aG (aN.alloc (cs:=Uv) Z Z) Z λs=>bQ 0 (vs:=[vI ((at' (at' f d.1) e.1).1),vI ((at' (at' f d.1) e.1).2)]) Z Z Z Z Z Z<|aM<|aK<|aK<|eD (λo=>h_ f d e (bI (cJ f d (bI (cX U f) t)) E) o=some r) (λo B=>[(0,n),(3,Value.map (some k)),(4,vI (d.1)),(7,vP s),(14,n),(15,vI (List.length f:Int)),(16,vI (d.1)),(21,(at' F d.1).1),(22,vI (List.length (at' f d.1):Int)),(23,vI (e.1)),(42,vB (o))]) (λo B=>[bV s [vI ((at' (at' f d.1) e.1).1),vI ((at' (at' f d.1) e.1).2)] 92,Mp nR QD k e.2]) ?_ ?_
     ·refine aO<|bU Z<|dK 0 Z<|cO Z<|aA Z ?_;refine Dy h Z (λ_ h=>?_) λ_ h=>?_
      ·refine aH Z<|aH Z<|aH Z<|aH Z<|aH Z<|dO Z<|aA Z<|aH Z<|aH Z<|aH Z<|aH Z<|dO Z<|aM ?_;exact gM (true) () h SF Z
      refine aP Z (dC Z Z Z Z Z) Z<|aP Z (eG 0 Z Z Z Z Z) Z<|cR Z<|aP Z (iY Z (aE.fact 0 Z) Z) Z<|aP Z (B_ Z Z) Z<|fI Z<|aA Z ?_;refine Dy h Z (λ_ h=>?_) λ_ h=>?_
      ·refine aH Z<|aH Z<|aH Z<|aH Z<|dO Z<|aM ?_;exact gM (true) () h SF Z
      refine aP Z (dC Z Z Z Z Z) Z<|aP Z (eG 0 Z Z Z Z Z) Z<|cR Z<|aP Z (OU Z Z) Z<|fI Z<|aM ?_;exact gM (decide (((at' (at' f d.1) e.1).1)=d.1)) () h SF Z
     intro o B h;refine Ab h Z (λ_ h=>?_) λ_ h=>?_
     ·refine aW<|aC Z<|aM<|aU<|aI<|bL<|aI<|aI<|bL<|bL<|aI<|aI<|bL<|aI ?_;cases h;exact sE Z
     refine cK<|aK<|aK<|eD (λp=>jG f d e (bI (cJ f d (bI (cX U f) t)) E) p=some r) (λp C=>[(0,n),(3,Value.map (some k)),(4,vI (d.1)),(7,vP s),(14,n),(15,vI (List.length f:Int)),(16,vI (d.1)),(21,(at' F d.1).1),(22,vI (List.length (at' f d.1):Int)),(23,vI (e.1)),(50,vB (p))]) (λp C=>[bV s [vI ((at' (at' f d.1) e.1).1),vI ((at' (at' f d.1) e.1).2)] 92,Mp nR QD k e.2]) ?_ ?_
     ·refine aO<|bU Z<|dK 0 Z<|cO Z<|aA Z ?_;refine Dy h Z (λ_ h=>?_) λ_ h=>?_
      ·refine aH Z<|aH Z<|aH Z<|dO Z<|aM ?_;exact gM (true) () h SF Z
      refine aP Z (dC Z Z Z Z Z) Z<|aP Z (eG 0 Z Z Z Z Z) Z<|aP Z (wS Z Z) Z<|fI Z<|aM ?_;exact gM (decide ((15:Int)<((at' (at' f d.1) e.1).2))) () h SF Z
     intro p C h;refine Ab h Z (λ_ h=>?_) λ_ h=>?_
     ·refine aW<|aC Z<|aM<|aU<|aI<|bL<|aI<|aI<|bL<|bL<|aI<|aI<|bL<|aI ?_;cases h;exact sE Z
     refine cK<|aW<|aA Z<|bU Z<|dK 0 Z ?_;refine aB (Ct (r:=Value.agg #[vI (d.1),vI ((at' (at' f d.1) e.1).1)]) Z Z (by intro w;simp[Instr.build,Instr.fill,dL,cT,cM,dM,dN,cU,eQ])) Z ?_;refine aG (aN.alloc (cs:=Uv) Z Z) Z λK=>bQ 0 (vs:=[vI (d.1),vI ((at' (at' f d.1) e.1).1)]) Z Z Z Z Z Z<|aM<|aK<|aW<|aA Z<|dV 0 Z ?_;refine aB (OX 2 ((d.1,((at' (at' f d.1) e.1).1))) (u:=vI (Option.getD (mT (d.1,((at' (at' f d.1) e.1).1)) e.2) (0:Int))) ND Z Z Z Z Z (by cases mT ((d.1,((at' (at' f d.1) e.1).1))) e.2<;>rfl)) Z ?_;refine aA Z<|jA Z<|jA Z<|aC Z<|aC Z<|aM<|aW<|aA Z<|aM ?_;refine Ab h Z (λ_ h=>?_) λ_ h=>?_
     ·refine aW<|aC Z<|aM<|aU<|aI<|bL<|aI<|aI<|bL<|bL<|aI<|aI<|bL<|aI ?_;cases h;exact sE Z
     refine cK<|aO<|aA Z<|dV 0 Z<|bU Z<|dK 1 Z<|Oo 2 ((d.1,((at' (at' f d.1) e.1).1))) ((at' (at' f d.1) e.1).2) ND Z Z Z Z Z<|eT<|mQ<|aO<|cI Z<|aA Z<|aM ?_;exact lK ((wI .i64 (e.1+(1:Int))),(CP (d.1,((at' (at' f d.1) e.1).1)) ((at' (at' f d.1) e.1).2) e.2)) () h SF (aY.ix [2] Z Z) (aF.refl _ _)
    refine qO<|eM<|eM<|wQ<|mQ ?_;exact gM (e.2) () h SF Z
   intro m z h;unfold m_ at h;refine aO<|cI Z<|aA Z<|aM ?_;exact yX ((wI .i64 (d.1+(1:Int))),m) () h SF Z
  refine fH ?_;exact gM (d.2) () h SF Z
 intro q H h;unfold jF at h;refine aK<|aW<|aA Z<|aG (aN.range 0 Z Z Z) Z λI=>aM<|aT<|ZQ [(3,Value.map (some k)),(69,vP I)] [It I k (List.length q) ([]),Mp nR QD k q] [S2 a_ n F f] SF (aY.refl _) (aF.refl _ _) ?_;refine UG (vW q) 1 0 (by intro a b x;unfold vW;repeat' split;all_goals first|rfl|contradiction|simp_all) h Z Z Z Z Z Z ?_ ?_
 ·skip
  intro g N G M v h;refine aT<|aW<|aG (aN.entry 1 0 v Z Z Z) Z λL=>jA Z<|jA Z<|aG (aN.alloc (cs:=Uv) Z Z) Z λJ=>bQ 0 (vs:=[vI (g.1.1),vI (g.1.2)]) Z Z Z Z Z Z<|aC Z<|aM<|aW<|aA Z ?_;refine aB (o_ (i:=1) Z Z Z Z Z (by decide)) Z ?_;refine dK 0 Z ?_;refine aB (o_ (i:=0) Z Z Z Z Z (by decide)) Z ?_;refine dK 0 Z ?_;refine aB (Ct (r:=Value.agg #[vI (g.1.2),vI (g.1.1)]) Z Z (by intro w;simp[Instr.build,Instr.fill,dL,cT,cM,dM,dN,cU,eQ])) Z ?_;refine aB (OX 2 ((g.1.2,g.1.1)) (u:=vI (Option.getD (mT (g.1.2,g.1.1) q) (0:Int))) ND Z Z Z Z Z (by cases mT ((g.1.2,g.1.1)) q<;>rfl)) Z ?_;refine aA Z<|rF Z<|aM ?_;refine fE h Z (λh=>?_) λh=>?_
  ·refine aW<|aC Z<|aM<|aU<|bL<|aI<|bL<|aI ?_;cases h;exact sE Z
  refine dW<|mQ ?_;exact Rb h SF (aY.ix [1,2] Z Z) (aF.refl _ _)
 intro G h;refine wQ<|Bw<|aW<|aC Z<|aM<|aU ?_;cases h;exact sE Z
def qD  (a:Bool):Option (Bool):=
 some (a)
def qC (U:Nat) (b:cF) (c:Bool):Option (Bool):=
 if c=true then(some (false))else(Option.bind (jO U b.1) λd=>(if d=true then(Option.bind (gT U b.2) λa=>(qD  (a)))else(qD  (false))))
def gE (U:Nat) (a:cF):Option (Bool):=
 if(List.length a.1:Int)<(1:Int)then(qC U a (true))else(if(24:Int)<(List.length a.1:Int)then(qC U a (true))else(qC U a (decide ((List.length a.2:Int)≠(List.length a.1:Int)))))
theorem Nk:aV Tryz.prog 86:=Tryz.call86
theorem zG (U:Nat) {p0:cF} (f:Value)  (g:Value)  (o:kH) (r:Bool) (h:gE U p0=some r):
  aX Tryz.prog 86 #[Value.agg #[f,g]] [Sl bP f p0.1,S2 a_ g o p0.2] (λx:Unit=>vB (r)) (λx l=>l) (λ_ l=>l):=by
 refine aX.of Tryz.func86 Z Tryz.ntmps86 Z λc=>?_;refine aW<|aG (aN.box (cs:=[f,g]) Z Z) Z λk=>aC Z<|aM<|aW<|bU Z<|dK 0 Z<|jB (aE.fact 0 Z) Z<|aC Z<|aM<|aK<|aK<|eD (λb=>qC U p0 b=some r) (λb m=>[(1,vP k),(19,vB (b))]) (λb m=>[bV k [f,g] 29]) ?_ ?_
 ·refine aO<|aA Z<|cO Z<|aA Z ?_;refine Dy h Z (λ_ h=>?_) λ_ h=>?_
  ·refine aH Z<|aH Z<|dO Z<|aA Z<|aH Z<|aH Z<|aH Z<|aH Z<|aH Z<|dO Z<|aM ?_;exact gM (true) () h SF Z
  refine cR Z<|aP Z (wS Z Z) Z<|fI Z<|aA Z ?_;refine Dy h Z (λ_ h=>?_) λ_ h=>?_
  ·refine aH Z<|aH Z<|aH Z<|aH Z<|aH Z<|dO Z<|aM ?_;exact gM (true) () h SF Z
  refine aP Z (dC Z Z Z Z Z) Z<|aP Z (eG 0 Z Z Z Z Z) Z<|aP Z (iY Z (aE.fact 1 Z) Z) Z<|cR Z<|aP Z (DJ Z Z) Z<|fI Z<|aM ?_;exact gM (decide ((List.length p0.2:Int)≠(List.length p0.1:Int))) () h SF Z
 intro b m h;refine Ab h Z (λ_ h=>?_) λ_ h=>?_
 ·refine aW<|aC Z<|aM<|aU<|aI ?_;cases h;exact sE Z
 refine cK<|aK<|eD (λd=>qD  d=some r) (λd n=>[(2,vB (d))]) (λd n=>[]) ?_ ?_
 ·refine aO<|bU Z<|dK 0 Z<|eX h λp i h=>aG (aN.callQ aal (Em U f p i) Z (n_ [0] Z)) Z λq=>aA Z ?_;refine rW (by exact rfl) (by exact rfl) (λa=>?_) (λa=>?_)
  ·have h:=Ik a h;refine aP Z (dC Z Z Z Z Z) Z<|aP Z (eG 0 Z Z Z Z Z) Z<|eX h λe j h=>oP Z (aN.callQ aam (He U g o e j) Z (n_ [1] Z)) Z λs=>dO Z<|aC Z<|aM ?_;exact cL (e) () h SF .nil (aF.refl _ _)
  have h:=DY a h;refine aH Z<|aH Z<|aH Z<|fI Z<|aC Z<|aM ?_;exact cL (false) () h SF .nil (aF.refl _ _)
 intro d n h;unfold qD at h;refine aU ?_;cases h;exact kV Z
def rM  (a:Int):Option (Int):=
 some (a)
def iD (U:Nat) (b:Int) (a:Int):Option (Int):=
 if a<(1:Int)then(some (0:Int))else(ck (a≠0) (if(Int.tmod b a)<(0:Int)then(rM  (wI .i64 ((Int.tmod b a)+a)))else(rM  (Int.tmod b a))))
theorem DN:aV Tryz.prog 19:=Tryz.call19
theorem lV (U:Nat) {d:Int} {b:Int} (r:Int) (h:iD U d b=some r):
  aX Tryz.prog 19 #[vI (d),vI (b)] [] (λx:Unit=>vI (r)) (λx l=>l) (λ_ l=>l):=by
 refine aX.of Tryz.func19 Z Tryz.ntmps19 Z λc=>?_;refine aW<|aC Z<|aM<|aK<|aW<|aA Z<|cO Z<|aM ?_;refine fE h Z (λh=>?_) λh=>?_
 ·refine aW<|aC Z<|aM<|aU<|aI ?_;cases h;exact kV Z
 refine cK<|aW<|aA Z<|aA Z<|dD h λf h=>aB (OY Z Z f) Z<|aC Z<|aM<|aK<|eD (λa=>rM  a=some r) (λa e=>[(0,vI (a))]) (λa e=>[]) ?_ ?_
 ·refine aW<|aA Z<|cO Z<|aM ?_;refine fE h Z (λh=>?_) λh=>?_
  ·refine aO<|aA Z<|aA Z<|cI Z<|aC Z<|aM ?_;exact gM (wI .i64 ((Int.tmod d b)+b)) () h SF Z
  refine cK ?_;exact gM (Int.tmod d b) () h SF Z
 intro a e h;unfold rM at h;refine aW<|aA Z<|aC Z<|aM<|aU ?_;cases h;exact kV Z
def sW (U:Nat) (b:aS) (a:Int):Option (Int):=
 if a<(List.length b:Int)then(ck (0<=a∧a<(List.length b:Int)) (some (at' b a)))else(some (0:Int))
theorem JJ:aV Tryz.prog 30:=Tryz.call30
theorem Bo (U:Nat) {b:aS} {d:Int} (e:Value) (r:Int) (h:sW U b d=some r):
  aX Tryz.prog 30 #[e,vI (d)] [Sl bP e b] (λx:Unit=>vI (r)) (λx l=>l) (λ_ l=>l):=by
 refine aX.of Tryz.func30 Z Tryz.ntmps30 Z λc=>?_;refine aW<|aC Z<|aM<|aK<|aW<|aA Z<|aA Z<|jB (aE.fact 0 Z) Z<|cO Z<|aM ?_;refine fE h Z (λh=>?_) λh=>?_
 ·refine aW<|aA Z<|aA Z<|dD h λa h=>aB (aZ Z Z (aE.fact 0 Z) Z Z a) Z<|aB (bX Z (aE.fact 0 Z) Z Z Z dG a) Z<|aC Z<|aM<|aU<|aI ?_;cases h;exact kV Z
 refine cK<|aW<|aC Z<|aM<|aU ?_;cases h;exact kV Z
def vQ  (a:Unit):Option (Bool):=
 some (false)
def Aq (c:cF) (a:Int) (e:Int) (b:Int) (d:(Int)->Option (Bool)):Option (Bool):=
 ck (0<=a∧a<(List.length c.2:Int)) (if b<(List.length (at' c.2 a):Int)then(ck (0<=a∧a<(List.length c.2:Int)) (ck (0<=b∧b<(List.length (at' c.2 a):Int)) (if((at' (at' c.2 a) b).1)=e then(some (true))else(d (wI .i64 (b+(1:Int)))))))else(vQ  (())))
def nL (U:Nat) (a:cF) (b:Int) (c:Int):Option (Bool):=
 bI (Aq a b c) U (0:Int)
theorem adG:aV Tryz.prog 75:=Tryz.call75
theorem KZ (U:Nat) {g:cF} {i:Int} {j:Int} (k:Value)  (m:Value)  (q:kH) (r:Bool) (h:nL U g i j=some r):
  aX Tryz.prog 75 #[Value.agg #[k,m],vI (i),vI (j)] [Sl bP k g.1,S2 a_ m q g.2] (λx:Unit=>vB (r)) (λx l=>l) (λ_ l=>l):=by
 refine aX.of Tryz.func75 Z Tryz.ntmps75 Z λc=>?_;unfold nL at h;refine aW<|aG (aN.box (cs:=[k,m]) Z Z) Z λn=>aC Z<|aM<|aK<|eD (λd=>vQ  d=some r) (λd o=>[]) (λd o=>[]) ?_ ?_
 ·refine aW<|aC Z<|aM<|aT<|dZ (Aq g i j) (λe p=>[(1,vI (i)),(2,vI (j)),(3,vP n),(7,vI (e))]) (λe p=>[bV n [k,m] 29]) (0:Int) () h SF (aY.refl _) ?_;intro s e p h;refine aK<|aW<|aA Z<|bU Z<|dK 0 Z<|aA Z<|dD h λf h=>aB (cH Z Z (aE.fact 1 Z) Z Z f) Z<|aB (cG Z (aE.fact 1 Z) Z Z f) Z<|aB (gW Z (aE.el (aE.fact 1 Z) f.1 f.2) Z) Z<|cO Z<|aM ?_;refine fE h Z (λh=>?_) λh=>?_
  ·refine cK<|aK<|aT<|aW<|bU Z<|dK 0 Z<|aA Z<|dD h λa h=>aB (cH Z Z (aE.fact 1 Z) Z Z a) Z<|aB (cG Z (aE.fact 1 Z) Z Z a) Z<|aA Z<|dD h λb h=>aB (aZ Z Z (aE.el (aE.fact 1 Z) a.1 a.2) Z Z b) Z<|aB (gA Z Z Z Z Z) Z<|aB (jQ Z (aE.el (aE.fact 1 Z) a.1 a.2) Z Z Z oZ b) Z<|aA Z<|cP Z<|aM ?_;refine fE h Z (λh=>?_) λh=>?_
   ·refine aW<|aC Z<|aM<|aU<|bL<|aI<|aI<|bL<|aI ?_;cases h;exact sE Z
   refine dW<|mQ<|aO<|aA Z<|cI Z<|aC Z<|aM ?_;exact yX (wI .i64 (e+(1:Int))) () h SF Z
  refine fH ?_;exact cL () (()) h SF .nil (aF.refl _ _)
 intro d o h;unfold vQ at h;refine aW<|aC Z<|aM<|aU ?_;cases h;exact kV Z
def pH (f:Dw) (c:cF) (a:Int) (b:Int) (d:Int) (e:Bool):Option (fP):=
 if e=true then(some (c.2))else(if f.2.2.2.2.2=true then(ck (0<=a∧a<(List.length c.2:Int)) (ck ((List.length ([(b,d)]):Int)+(List.length (at' c.2 a):Int)<=1099511627) (ck (0<=a∧a<(List.length c.2:Int)) (ck (0<=b∧b<(List.length (List.set c.2 (Int.toNat a) (([(b,d)])++(at' c.2 a))):Int)) (ck ((List.length ([(a,d)]):Int)+(List.length (at' (List.set c.2 (Int.toNat a) (([(b,d)])++(at' c.2 a))) b):Int)<=1099511627) (ck (0<=b∧b<(List.length (List.set c.2 (Int.toNat a) (([(b,d)])++(at' c.2 a))):Int)) (some (List.set (List.set c.2 (Int.toNat a) (([(b,d)])++(at' c.2 a))) (Int.toNat b) (([(a,d)])++(at' (List.set c.2 (Int.toNat a) (([(b,d)])++(at' c.2 a))) b))))))))))else(ck (0<=a∧a<(List.length c.2:Int)) (ck (0<=b∧b<(List.length c.2:Int)) (ck ((List.length (at' c.2 a):Int)+(List.length ([(b,d)]):Int)<=1099511627) (ck ((List.length (at' c.2 b):Int)+(List.length ([(a,d)]):Int)<=1099511627) (ck (Int.toNat a≠Int.toNat b) (ck (0<=a∧a<(List.length (List.set (List.set c.2 (Int.toNat a) ((at' c.2 a)++([(b,d)]))) (Int.toNat b) ((at' c.2 b)++([(a,d)]))):Int)) (ck (0<=b∧b<(List.length (List.set (List.set c.2 (Int.toNat a) ((at' c.2 a)++([(b,d)]))) (Int.toNat b) ((at' c.2 b)++([(a,d)]))):Int)) (some (List.set (List.set c.2 (Int.toNat a) ((at' c.2 a)++([(b,d)]))) (Int.toNat b) ((at' c.2 b)++([(a,d)]))))))))))))
def nE (U:Nat) (e:Dw) (a:cF) (b:Int) (c:Int) (f:Int):Option (fP):=
 if b=c then(pH e a b c f (true))else(Option.bind (nL U ((a.1,a.2)) b c) λd=>(pH e a b c f (d)))
theorem WY:aV Tryz.prog 46:=Tryz.call46
theorem Bh (U:Nat) {s:Dw} {G:cF} {f:Int} {g:Int} {d:Int} (J:Value)  (K:Value)  (L:Value)  (H:Value)  (C:Value)  (A:fR) (r:fP) (h:nE U s G f g d=some r):
  Fz Tryz.prog 46 #[Value.agg #[vI (s.1),J,K,L,vB (s.2.2.2.2.1),vB (s.2.2.2.2.2)],Value.agg #[H,C],vI (f),vI (g),vI (d)] [Ar cZ.raw C A,lD cB A G.2] [Sl bP J s.2.1,Sl bP K s.2.2.1,Sl bP L s.2.2.2.1,Sl bP H G.1] (λx:fR=>Value.tuple #[]) (λx l=>Ar cZ.raw C x::lD cB x r::l):=by
 refine Fz.of (vs:=[Value.agg #[vI (s.1),J,K,L,vB (s.2.2.2.2.1),vB (s.2.2.2.2.2)],Value.agg #[H,C],vI (f),vI (g),vI (d)]) Tryz.func46 Z Tryz.ntmps46 Z λc=>?_;refine aW<|aG (aN.box (cs:=[vI (s.1),J,K,L,vB (s.2.2.2.2.1),vB (s.2.2.2.2.2)]) Z Z) Z λb1=>aG (aN.box (cs:=[H,C]) Z Z) Z λb2=>aM<|aK<|aK<|BH (B:=Unit) (λI=>pH s G f g d I=some r) (λI b5=>[(2,vI (f)),(3,vI (g)),(4,vI (d)),(5,vP b1),(6,vP b2),(20,vB (I))]) (λI b5=>[bV b2 [H,C] 29,bV b1 [vI (s.1),J,K,L,vB (s.2.2.2.2.1),vB (s.2.2.2.2.2)] 24,Ar cZ.raw C A,lD cB A G.2]) (λI b5=>[Sl bP J s.2.1,Sl bP K s.2.2.1,Sl bP L s.2.2.2.1,Sl bP H G.1]) ?_ ?_
 ·refine aO<|aA Z<|aA Z<|cP Z<|aA Z ?_;refine Dy h Z (λ_ h=>?_) λ_ h=>?_
  ·refine aH Z<|aH Z<|aH Z<|aH Z<|dO Z<|aM ?_;exact gM (true) () h SF Z
  refine aP Z (fW 0 Z Z Z Z) Z<|cR Z<|cR Z<|eX h λav au h=>oP Z (aN.callQ adG (KZ U H C (List.zip A G.2) av au) Z (aF.cons (aE.fact 3 Z) (aF.cons (bT (i:=2) (j:=3) Z Z bR) .nil))) Z λa9=>fI Z<|aM ?_;exact gM (av) () h SF Z
 intro I b5 h;refine Ab h Z (λ_ h=>?_) λ_ h=>?_
 ·refine aU<|aI ?_;cases h;exact Gg (A) Z Z .ret (.inl Z) (aY.ix [2,3] Z Z) aF.nil
 refine cK<|aW<|aA Z<|aA Z ?_;refine aB (Ct (r:=Value.agg #[vI (g),vI (d)]) Z Z (by intro w;simp[Instr.build,Instr.fill,dL,cT,cM,dM,dN,cU,eQ])) Z ?_;refine aA Z<|aA Z ?_;refine aB (Ct (r:=Value.agg #[vI (f),vI (d)]) Z Z (by intro w;simp[Instr.build,Instr.fill,dL,cT,cM,dM,dN,cU,eQ])) Z ?_;refine aG (aN.alloc (cs:=Uv) Z Z) Z λb7=>aG (aN.alloc (cs:=Uv) Z Z) Z λb8=>bQ 1 (vs:=[vI (g),vI (d)]) Z Z Z Z Z Z<|bQ 0 (vs:=[vI (f),vI (d)]) Z Z Z Z Z Z<|aM<|aK<|aW<|bU Z<|dK 3 Z<|aM ?_;refine Ab h Z (λ_ h=>?_) λ_ h=>?_
 ·refine aK ?_;refine JR.start [0,1,0,0,8,0,32,0,224,480,1016,2047,4095] 11 mixedOrders (by decide +kernel) ?_;refine JR.open (by exact rfl) ?_;refine cY Z<|iS 2 Z<|bF Z<|mA 1 Z<|JR.loud Z Z Z (bY (e:=cB) ([((g,d))]) [(0,Value.agg #[vI (g),vI (d)])] Z Z Z Z (zS (vI (g)) (vI (d))) Z Z Z) Z (λaT=>(t_ [([3],[])] Z)) λaT=>iW Z (dC Z Z Z Z Z)<|bK Z (aY.cons 3 Z .nil) .nil (eG 0 Z Z Z Z Z) (aL.h (aY.ix [2] Z Z) .nil aL.z)<|iW Z (gH Z)<|dD h λu h=>d_ (dJ 6 Z) λM=>?_;refine bK Z (aY.cons 5 Z .nil) .nil (iI 0 Z Z Z Z Z u.1 (by have m:=u.2;have n:=M;(try simp only[List.length_set]at m);(try simp only[List.length_set]at n);(try simp only[List.length_set]);omega)) (aL.h (aY.ix [4] Z Z) .nil aL.z) ?_;refine d_ (dJ 6 Z) λN=>bK Z (aY.cons 5 Z .nil) .nil (lY 0 Z Z N Z Z u) (aL.h (aY.ix [4] Z Z) .nil aL.z)<|dD h λaR h=>JR.loud Z Z Z (eN 0 bR Z Z Z (aE.row (j:=6) Z bR u.1 u.2) Z Z Z Z aR Z) Z (λaw=>(t_ [([3],[])] Z)) λaw=>bM 11 Z Z<|dD h λv h=>aB (cH Z Z (bT (i:=5) (j:=6) Z Z bR) Z Z v) Z<|cD (Know.one ((bE (aE.res 0 Z) bR))) λak=>i_ (yK (k:=f) 6 0 Z Z Z v) ?_;refine oY 4 5 ⟨v.1,by first|exact v.2|simpa using v.2⟩ Z Z Z Z Z (by simp) ak Z ?_;refine aM<|aK ?_;refine JR.start [0,1,0,0,8,0,32,0,224,480,1016,2047,4095] 11 mixedOrders (by decide +kernel) ?_;refine JR.open (by exact rfl) ?_;refine cY Z<|iS 2 Z<|bF Z<|mA 0 Z<|JR.loud Z Z Z (bY (e:=cB) ([((f,d))]) [(0,Value.agg #[vI (f),vI (d)])] Z Z Z Z (zS (vI (f)) (vI (d))) Z Z Z) Z (λaV=>(t_ [([3],[])] Z)) λaV=>iW Z (dC Z Z Z Z Z)<|bK Z (aY.cons 3 Z .nil) .nil (eG 0 Z Z Z Z Z) (aL.h (aY.ix [2] Z Z) .nil aL.z)<|iW Z (gH Z)<|dD h λt h=>d_ (dJ 6 Z) λO=>?_;refine bK Z (aY.cons 5 Z .nil) .nil (iI 0 Z Z Z Z Z t.1 (by have m:=t.2;have n:=O;(try simp only[List.length_set]at m);(try simp only[List.length_set]at n);(try simp only[List.length_set]);omega)) (aL.h (aY.ix [4] Z Z) .nil aL.z) ?_;refine d_ (dJ 6 Z) λP=>bK Z (aY.cons 5 Z .nil) .nil (lY 0 Z Z P Z Z t) (aL.h (aY.ix [4] Z Z) .nil aL.z)<|dD h λaS h=>JR.loud Z Z Z (eN 0 bR Z Z Z (aE.row (j:=6) Z bR t.1 (by first|exact t.2|simpa using t.2)) Z Z Z Z aS Z) Z (λax=>(t_ [([3],[])] Z)) λax=>?_;refine bM 11 Z Z<|dD h λy h=>aB (cH Z Z (bT (i:=5) (j:=6) Z Z bR) Z Z y) Z<|cD (Know.one ((bE (aE.res 0 Z) bR))) λal=>i_ (yK (k:=g) 6 0 Z Z Z y) ?_;refine oY 4 5 ⟨y.1,by first|exact y.2|simpa using y.2⟩ Z Z Z Z Z (by simp) al Z ?_;refine aM<|aU<|aI ?_;cases h;exact Gg (List.set (List.set A (Int.toNat f) aw) (Int.toNat g) ax) Z Z .ret (.inl Z) (aY.ix [4,5] Z Z) aF.nil
 refine cK<|dD h λp h=>dD h λq h=>dD h λD h=>dD h λE h=>dD h λF h=>dD h λa h=>dD h λb h=>UJ [0,1,0,0,8,0,0,64,0,448,960,0,2048,8128,0,16384,0,114688,245760,0,524288,2097088,4194247,8388551,16777215,33554431] 24 [[0,1,2,3,4,5,6,7,8,9,10,11,14,15,16,17,18,19,12,13,20,21,22,23,24,25],[0,1,2,3,4,5,6,7,8,9,10,11,14,15,16,17,18,19,12,20,13,21,22,23,24,25],[0,1,2,3,4,5,6,7,8,9,10,11,14,15,16,17,18,19,20,12,13,21,22,23,24,25]] mixedOrders (by decide +kernel) (by decide +kernel) ?_;intro o ho;simp only[List.mem_cons,List.not_mem_nil,or_false]at ho;rcases ho with rfl|rfl|rfl
 ·refine cY Z<|iS 2 Z<|bF Z<|cY Z<|iS 2 Z<|bF Z<|cY Z<|iS 2 Z<|bF Z<|d_ (dJ 5 Z) λQ=>?_;refine bK Z (aY.cons 4 Z .nil) .nil (iI 0 Z Z Z Z Z p.1 (by have m:=p.2;have n:=Q;(try simp only[List.length_set]at m);(try simp only[List.length_set]at n);(try simp only[List.length_set]);omega)) aL.z ?_;refine d_ (dJ 5 Z) λR=>bK Z (aY.cons 4 Z .nil) .nil (lY 0 Z Z R Z Z p) aL.z<|mA 1 Z<|cY Z<|iS 2 Z<|bF Z<|d_ (dJ 5 Z) λS=>?_;refine bK Z (aY.cons 4 Z .nil) .nil (iI 0 Z Z Z Z Z q.1 (by have m:=q.2;have n:=S;(try simp only[List.length_set]at m);(try simp only[List.length_set]at n);(try simp only[List.length_set]);omega)) aL.z ?_;refine d_ (dJ 5 Z) λT=>bK Z (aY.cons 4 Z .nil) .nil (lY 0 Z Z T Z Z q) aL.z<|mA 0 Z<|JR.loud Z Z Z (bY (e:=cB) ([((g,d))]) [(0,Value.agg #[vI (g),vI (d)])] Z Z Z Z (zS (vI (g)) (vI (d))) Z Z Z) Z (λaX=>(t_ [([1],[]),([5],[]),([5],[]),([3],[]),([5],[]),([5],[]),([3],[]),([3],[]),([3],[])] Z)) λaX=>JR.loud Z Z Z (oE 6 bR Z Z Z (bE (aE.res 0 Z) bR) Z Z Z Z p D Z) Z (λay=>(t_ [([1],[]),([5],[]),([5],[]),([3],[]),([3],[]),([3],[])] Z)) λay=>JR.loud Z Z Z (bY (e:=cB) ([((f,d))]) [(0,Value.agg #[vI (f),vI (d)])] Z Z Z Z (zS (vI (f)) (vI (d))) Z Z Z) Z (λa0=>(t_ [([6],[]),([6],[]),([4],[]),([3],[]),([6],[]),([6],[]),([4],[]),([4],[]),([4],[])] Z)) λa0=>JR.loud Z Z Z (z_ (j:=f) 7 bR Z Z Z (bE (aE.res 0 Z) bR) Z Z Z Z q E Z F) Z (λaz=>(t_ [([4],[]),([4],[])] Z)) λaz=>d_ (dJ 7 Z) λV=>?_;refine bK Z (aY.cons 6 Z .nil) .nil (iI 0 Z Z Z Z Z a.1 (by have m:=a.2;have n:=V;(try simp only[List.length_set]at m);(try simp only[List.length_set]at n);(try simp only[List.length_set]);omega)) (hkI Z) ?_;refine d_ (Cq (k:=f) (j:=g) 7 Z (by omega) ⟨a.1,by first|exact a.2|simpa using a.2⟩) λam=>?_;refine Dz Z Z Z (BI 6 7 ⟨a.1,by first|exact a.2|simpa using a.2⟩ Z Z Z Z (by simp) am Z) (λa6=>(t_ [([4],[])] Z)) λa6=>?_;refine bM 24 Z Z<|cD (dJ 7 Z) λW=>?_;refine aB (iI 6 Z Z Z Z Z b.1 (by have m:=b.2;have n:=W;(try simp only[List.length_set]at m);(try simp only[List.length_set]at n);(try simp only[List.length_set]);omega)) Z ?_;refine cD (zO 7 (k:=g) Z ⟨b.1,by first|exact b.2|simpa using b.2⟩) λan=>?_;refine oY 6 7 ⟨b.1,by first|exact b.2|simpa using b.2⟩ Z Z Z Z Z (by simp) an Z ?_;refine eT ?_;cases h;exact Gg (List.set (List.set A (Int.toNat f) ay) (Int.toNat g) az) Z Z .normal (.inr Z) (aY.ix [6,7] Z Z) aF.nil
 ·refine cY Z<|iS 2 Z<|bF Z<|cY Z<|iS 2 Z<|bF Z<|cY Z<|iS 2 Z<|bF Z<|d_ (dJ 5 Z) λX=>?_;refine bK Z (aY.cons 4 Z .nil) .nil (iI 0 Z Z Z Z Z p.1 (by have m:=p.2;have n:=X;(try simp only[List.length_set]at m);(try simp only[List.length_set]at n);(try simp only[List.length_set]);omega)) aL.z ?_;refine d_ (dJ 5 Z) λY=>bK Z (aY.cons 4 Z .nil) .nil (lY 0 Z Z Y Z Z p) aL.z<|mA 1 Z<|cY Z<|iS 2 Z<|bF Z<|d_ (dJ 5 Z) λaa=>?_;refine bK Z (aY.cons 4 Z .nil) .nil (iI 0 Z Z Z Z Z q.1 (by have m:=q.2;have n:=aa;(try simp only[List.length_set]at m);(try simp only[List.length_set]at n);(try simp only[List.length_set]);omega)) aL.z ?_;refine d_ (dJ 5 Z) λab=>bK Z (aY.cons 4 Z .nil) .nil (lY 0 Z Z ab Z Z q) aL.z<|mA 0 Z<|JR.loud Z Z Z (bY (e:=cB) ([((g,d))]) [(0,Value.agg #[vI (g),vI (d)])] Z Z Z Z (zS (vI (g)) (vI (d))) Z Z Z) Z (λa1=>(t_ [([1],[]),([5],[]),([5],[]),([3],[]),([5],[]),([5],[]),([3],[]),([3],[]),([3],[])] Z)) λa1=>JR.loud Z Z Z (bY (e:=cB) ([((f,d))]) [(0,Value.agg #[vI (f),vI (d)])] Z Z Z Z (zS (vI (f)) (vI (d))) Z Z Z) Z (λa2=>(t_ [([6],[]),([6],[]),([4],[]),([3],[]),([6],[]),([6],[]),([4],[]),([4],[]),([4],[])] Z)) λa2=>JR.loud Z Z Z (oE 7 bR Z Z Z (bE (aE.res 1 Z) bR) Z Z Z Z p D Z) Z (λaC=>(t_ [([2],[]),([6],[]),([6],[]),([4],[]),([4],[]),([4],[])] Z)) λaC=>JR.loud Z Z Z (z_ (j:=f) 7 bR Z Z Z (bE (aE.res 0 Z) bR) Z Z Z Z q E Z F) Z (λaD=>(t_ [([4],[]),([4],[])] Z)) λaD=>d_ (dJ 7 Z) λac=>?_;refine bK Z (aY.cons 6 Z .nil) .nil (iI 0 Z Z Z Z Z a.1 (by have m:=a.2;have n:=ac;(try simp only[List.length_set]at m);(try simp only[List.length_set]at n);(try simp only[List.length_set]);omega)) (hkI Z) ?_;refine d_ (Cq (k:=f) (j:=g) 7 Z (by omega) ⟨a.1,by first|exact a.2|simpa using a.2⟩) λao=>?_;refine Dz Z Z Z (BI 6 7 ⟨a.1,by first|exact a.2|simpa using a.2⟩ Z Z Z Z (by simp) ao Z) (λa7=>(t_ [([4],[])] Z)) λa7=>?_;refine bM 24 Z Z<|cD (dJ 7 Z) λad=>?_;refine aB (iI 6 Z Z Z Z Z b.1 (by have m:=b.2;have n:=ad;(try simp only[List.length_set]at m);(try simp only[List.length_set]at n);(try simp only[List.length_set]);omega)) Z ?_;refine cD (zO 7 (k:=g) Z ⟨b.1,by first|exact b.2|simpa using b.2⟩) λap=>?_;refine oY 6 7 ⟨b.1,by first|exact b.2|simpa using b.2⟩ Z Z Z Z Z (by simp) ap Z ?_;refine eT ?_;cases h;exact Gg (List.set (List.set A (Int.toNat f) aC) (Int.toNat g) aD) Z Z .normal (.inr Z) (aY.ix [6,7] Z Z) aF.nil
 refine cY Z<|iS 2 Z<|bF Z<|cY Z<|iS 2 Z<|bF Z<|cY Z<|iS 2 Z<|bF Z<|d_ (dJ 5 Z) λae=>?_;refine bK Z (aY.cons 4 Z .nil) .nil (iI 0 Z Z Z Z Z p.1 (by have m:=p.2;have n:=ae;(try simp only[List.length_set]at m);(try simp only[List.length_set]at n);(try simp only[List.length_set]);omega)) aL.z ?_;refine d_ (dJ 5 Z) λaf=>bK Z (aY.cons 4 Z .nil) .nil (lY 0 Z Z af Z Z p) aL.z<|mA 1 Z<|cY Z<|iS 2 Z<|bF Z<|d_ (dJ 5 Z) λag=>?_;refine bK Z (aY.cons 4 Z .nil) .nil (iI 0 Z Z Z Z Z q.1 (by have m:=q.2;have n:=ag;(try simp only[List.length_set]at m);(try simp only[List.length_set]at n);(try simp only[List.length_set]);omega)) aL.z ?_;refine d_ (dJ 5 Z) λah=>bK Z (aY.cons 4 Z .nil) .nil (lY 0 Z Z ah Z Z q) aL.z<|mA 0 Z<|JR.loud Z Z Z (bY (e:=cB) ([((f,d))]) [(0,Value.agg #[vI (f),vI (d)])] Z Z Z Z (zS (vI (f)) (vI (d))) Z Z Z) Z (λa3=>(t_ [([5],[]),([5],[]),([3],[]),([2],[]),([5],[]),([5],[]),([3],[]),([3],[]),([3],[])] Z)) λa3=>JR.loud Z Z Z (bY (e:=cB) ([((g,d))]) [(0,Value.agg #[vI (g),vI (d)])] Z Z Z Z (zS (vI (g)) (vI (d))) Z Z Z) Z (λa5=>(t_ [([2],[]),([6],[]),([6],[]),([4],[]),([6],[]),([6],[]),([4],[]),([4],[]),([4],[])] Z)) λa5=>JR.loud Z Z Z (oE 7 bR Z Z Z (bE (aE.res 0 Z) bR) Z Z Z Z p D Z) Z (λaJ=>(t_ [([2],[]),([6],[]),([6],[]),([4],[]),([4],[]),([4],[])] Z)) λaJ=>JR.loud Z Z Z (z_ (j:=f) 7 bR Z Z Z (bE (aE.res 1 Z) bR) Z Z Z Z q E Z F) Z (λaQ=>(t_ [([4],[]),([4],[])] Z)) λaQ=>d_ (dJ 7 Z) λai=>?_;refine bK Z (aY.cons 6 Z .nil) .nil (iI 0 Z Z Z Z Z a.1 (by have m:=a.2;have n:=ai;(try simp only[List.length_set]at m);(try simp only[List.length_set]at n);(try simp only[List.length_set]);omega)) (hkI Z) ?_;refine d_ (Cq (k:=f) (j:=g) 7 Z (by omega) ⟨a.1,by first|exact a.2|simpa using a.2⟩) λaq=>?_;refine Dz Z Z Z (BI 6 7 ⟨a.1,by first|exact a.2|simpa using a.2⟩ Z Z Z Z (by simp) aq Z) (λa8=>(t_ [([4],[])] Z)) λa8=>?_;refine bM 24 Z Z<|cD (dJ 7 Z) λaj=>?_;refine aB (iI 6 Z Z Z Z Z b.1 (by have m:=b.2;have n:=aj;(try simp only[List.length_set]at m);(try simp only[List.length_set]at n);(try simp only[List.length_set]);omega)) Z ?_;refine cD (zO 7 (k:=g) Z ⟨b.1,by first|exact b.2|simpa using b.2⟩) λar=>?_;refine oY 6 7 ⟨b.1,by first|exact b.2|simpa using b.2⟩ Z Z Z Z Z (by simp) ar Z ?_;refine eT ?_;cases h;exact Gg (List.set (List.set A (Int.toNat f) aJ) (Int.toNat g) aQ) Z Z .normal (.inr Z) (aY.ix [6,7] Z Z) aF.nil
def oS (b:Int) (a:aS):Option tX:=
 some ((a,(List.replicate (Int.toNat (wI .i64 ((1:Int)+b))) ([]:fS))))
def sO (a:oB) (c:x_->Option tX) (b:Int):Option tX:=
 ck ((List.length a.2:Int)+(List.length ([b]):Int)<=1099511627) (c ((wI .i64 (a.1+(1:Int))),(a.2++[b])))
def lM (b:jC->Option tX) (a:fU):Option tX:=
 b (a.1,(wI .i64 (a.2+(1:Int))))
def lN (b:oB) (d:x_->Option tX) (a:fU) (c:jC->Option tX):Option tX:=
 if a.2<b.1 then(ck (0<=a.2∧a.2<(List.length b.2:Int)) (if(at' b.2 a.2)=a.1 then(ck ((256:Int)≠0) (lM c ((Int.tmod (wI .i64 (a.1+(1:Int))) (256:Int)),(-1:Int))))else(lM c (a.1,a.2))))else(sO b d (a.1))
def jJ (U:Nat) (f:Dw) (e:Int) (a:oB) (b:x_->Option tX):Option tX:=
 if a.1<(wI .i64 ((1:Int)+e))then(Option.bind (sW U f.2.2.2.1 a.1) λc=>(Option.bind (iD U c (256:Int)) λd=>(bI (lN a b) U (d,(0:Int)))))else(oS e (a.2))
def pK (U:Nat) (b:Dw) (c:Int):Option tX:=
 Option.bind (iD U (wI .i64 (b.1 - (1:Int))) c) λa=>(ck (0<=(wI .i64 ((1:Int)+a))∧(wI .i64 ((1:Int)+a))<=1099511627) (bI (jJ U b a) U ((0:Int),([]:aS))))
theorem adu:aV Tryz.prog 47:=Tryz.call47
theorem Fc (U:Nat) {d:Dw} {S:Int} (y:Value)  (z:Value)  (u:Value) (r:(aS×fP)) (h:pK U d S=some r):
  aX Tryz.prog 47 #[Value.agg #[vI (d.1),y,z,u,vB (d.2.2.2.2.1),vB (d.2.2.2.2.2)],vI (S)] [Sl bP y d.2.1,Sl bP z d.2.2.1,Sl bP u d.2.2.2.1] (λx:Value×Value×List Value=>Value.agg #[x.1,x.2.1]) (λx l=>Ar b_ x.1 r.1::Ar cZ.raw x.2.1 x.2.2::lD cB x.2.2 r.2::l) (λ_ l=>l):=by
 refine aX.of Tryz.func47 Z Tryz.ntmps47 Z λc=>?_;refine aW<|aG (aN.box (cs:=[vI (d.1),y,z,u,vB (d.2.2.2.2.1),vB (d.2.2.2.2.2)]) Z Z) Z λt=>aG (aN.alloc (cs:=[lF,lF]) Z Z) Z λq=>aM<|aW<|bU Z<|dK 1 Z<|aB (oC Z Z) Z<|aA Z<|eX h λb W h=>aG (aN.callQ DN (lV U  b W) Z .nil) Z λx5=>cI Z<|aC Z<|aM<|aW<|aA Z<|dD h λT h=>i_ (wB cB (Int.toNat (wI .i64 ((1:Int)+b))))<|aG (qP (e:=cZ.raw) (lF) Z Z Z Z T Z Z Z) Z λn=>cD (Know.one (aE.sl (bT (i:=0) (j:=1) Z Z bR))) λK=>?_;refine aB (WC (r:=Value.agg #[lF,n]) Z (by intro w;simp[Instr.build,Instr.fill,dL,cT,cM,dM,dN,cU,eQ,fL K])) Z ?_;refine aG (aN.alloc (cs:=[lF,lF]) Z Z) Z λs=>cD (Know.one (aE.sl (bT (i:=1) (j:=2) Z Z bR))) λE=>bQ 0 (vs:=[lF,n]) Z Z (lH Z (lH E Z)) Z Z Z<|aM<|aK<|Ch (B:=Value) (λp=>oS b p=some r) (λp o=>[(4,vP q),(6,vP s)]) (λp o=>[bV s [o,n] 29,Ar cZ.raw n (List.replicate (Int.toNat (wI .i64 ((1:Int)+b))) (lF)),lD cB (List.replicate (Int.toNat (wI .i64 ((1:Int)+b))) (lF)) (List.replicate (Int.toNat (wI .i64 ((1:Int)+b))) ([]:fS)),bV q [lF,lF] 29,Ar b_ o p]) ?_ ?_
 ·refine aW<|aC Z<|aM<|aT<|i_ (f_ b_)<|dZ (B:=Value) (jJ U d b) (λa f=>[(2,vP t),(4,vP q),(5,vI (wI .i64 ((1:Int)+b))),(6,vP s),(7,vI (a.1))]) (λa f=>[bV s [f,n] 29,Ar cZ.raw n (List.replicate (Int.toNat (wI .i64 ((1:Int)+b))) (lF)),lD cB (List.replicate (Int.toNat (wI .i64 ((1:Int)+b))) (lF)) (List.replicate (Int.toNat (wI .i64 ((1:Int)+b))) ([]:fS)),bV q [lF,lF] 29,bV t [vI (d.1),y,z,u,vB (d.2.2.2.2.1),vB (d.2.2.2.2.2)] 24,Ar b_ f a.2]) ((0:Int),([]:aS)) (lF) h SF (aY.ix [1,2,3,4,5,0] Z Z) ?_;intro v a f h;refine aK<|aW<|aA Z<|aA Z<|cO Z<|aM ?_;refine fE h Z (λh=>?_) λh=>?_
  ·refine cK<|aK<|aT<|aW<|bU Z<|dK 4 Z<|aA Z<|eX h λO Q h=>aG (aN.callQ JJ (Bo U u O Q) Z (n_ [2] Z)) Z λX=>eX h λJ R h=>aG (aN.callQ DN (lV U  J R) Z .nil) Z λY=>aC Z<|aM<|aK<|eD (λg=>sO a (bI (jJ U d b) v) g=some r) (λg A=>[(2,vP t),(4,vP q),(5,vI (wI .i64 ((1:Int)+b))),(6,vP s),(7,vI (a.1)),(8,vI (g))]) (λg A=>[bV s [f,n] 29,Ar cZ.raw n (List.replicate (Int.toNat (wI .i64 ((1:Int)+b))) (lF)),lD cB (List.replicate (Int.toNat (wI .i64 ((1:Int)+b))) (lF)) (List.replicate (Int.toNat (wI .i64 ((1:Int)+b))) ([]:fS)),bV q [lF,lF] 29,bV t [vI (d.1),y,z,u,vB (d.2.2.2.2.1),vB (d.2.2.2.2.2)] 24,Ar b_ f a.2]) ?_ ?_
   ·refine aW<|aC Z<|aM<|aT<|dZ (lN a (bI (jJ U d b) v)) (λk C=>[(2,vP t),(4,vP q),(5,vI (wI .i64 ((1:Int)+b))),(6,vP s),(7,vI (a.1)),(8,vI (k.1)),(9,vI (k.2))]) (λk C=>[bV s [f,n] 29,Ar cZ.raw n (List.replicate (Int.toNat (wI .i64 ((1:Int)+b))) (lF)),lD cB (List.replicate (Int.toNat (wI .i64 ((1:Int)+b))) (lF)) (List.replicate (Int.toNat (wI .i64 ((1:Int)+b))) ([]:fS)),bV q [lF,lF] 29,bV t [vI (d.1),y,z,u,vB (d.2.2.2.2.1),vB (d.2.2.2.2.2)] 24,Ar b_ f a.2]) (J,(0:Int)) () h SF (aY.refl _) ?_;intro N k C h;refine aK<|aW<|aA Z<|aA Z<|cO Z<|aM ?_;refine fE h Z (λh=>?_) λh=>?_
    ·refine cK<|aK<|eD (λm=>lM (bI (lN a (bI (jJ U d b) v)) N) m=some r) (λm D=>[(2,vP t),(4,vP q),(5,vI (wI .i64 ((1:Int)+b))),(6,vP s),(7,vI (a.1)),(8,vI (m.1)),(9,vI (m.2))]) (λm D=>[bV s [f,n] 29,Ar cZ.raw n (List.replicate (Int.toNat (wI .i64 ((1:Int)+b))) (lF)),lD cB (List.replicate (Int.toNat (wI .i64 ((1:Int)+b))) (lF)) (List.replicate (Int.toNat (wI .i64 ((1:Int)+b))) ([]:fS)),bV q [lF,lF] 29,bV t [vI (d.1),y,z,u,vB (d.2.2.2.2.1),vB (d.2.2.2.2.2)] 24,Ar b_ f a.2]) ?_ ?_
     ·refine aT<|aW<|bU Z<|dK 0 Z<|aA Z<|dD h λI h=>aB (aZ Z Z (bE (aE.res 5 Z) dY) Z Z I) Z<|aB (bX Z (bE (aE.res 5 Z) dY) Z Z Z dG I) Z<|aA Z<|cP Z<|aM ?_;refine fE h Z (λh=>?_) λh=>?_
      ·refine aO<|aA Z<|cI Z<|dD h λM h=>aB (OY Z Z M) Z<|aC Z<|aC Z<|eT<|mQ ?_;exact gM ((Int.tmod (wI .i64 (k.1+(1:Int))) (256:Int)),(-1:Int)) () h SF Z
      refine dW<|mQ ?_;exact gM (k.1,k.2) () h SF Z
     intro m D h;unfold lM at h;refine aO<|aA Z<|cI Z<|aC Z<|aM ?_;exact yX (m.1,(wI .i64 (m.2+(1:Int)))) () h SF Z
    refine fH ?_;exact gM (k.1) () h SF Z
   intro g A h;refine aO<|bU Z<|dK 0 Z<|aA Z<|aG (bY (e:=b_) ([g]) [(0,vI (g))] Z Z Z Z (lR (vI (g)) Z) Z Z Z) Z λV=>dD h λL h=>aG (eN 6 dY Z Z Z (bE (aE.res 0 Z) dY) Z Z Z Z L Z) Z λP=>bU Z<|cD (Know.one ((bE (aE.res 6 Z) dY))) λH=>gZ 1 Z Z H Z Z Z<|eT<|mQ<|aO<|aA Z<|cI Z<|aC Z<|aM ?_;exact lK ((wI .i64 (a.1+(1:Int))),(a.2++[g])) (P) h SF (aY.ix [1,2,3,4,5,6] Z Z) (aF.refl _ _)
  refine fH ?_;exact cL (a.2) (f) h SF (aY.ix [0,1,2,3,5] Z Z) (aF.refl _ _)
 intro p o h;unfold oS at h;refine aW<|dV 0 Z<|cD (Know.one ((bE (aE.res 4 Z) dY))) λF=>cD (Know.one (aE.sl (bT (i:=1) (j:=2) Z Z bR))) λG=>bQ 3 (vs:=[o,n]) Z Z (lH F (lH G Z)) Z Z Z<|aM<|aU ?_;cases h;exact fV (o,n,(List.replicate (Int.toNat (wI .i64 ((1:Int)+b))) (lF))) Z Z (RV.cell 3 Z Z Z Z) (aY.ix [4,1,2] Z Z) aF.nil
def pG (b:(aS×fP)) (a:fP):Option tX:=
 some ((b.1,a))
def tY (U:Nat) (b:Dw) (i:(aS×fP)) (a:Int×fP) (c:(Int×fP)->Option tX):Option tX:=
 if a.1<(List.length a.2:Int)then(Option.bind (sW U b.2.1 (wI .i64 (a.1 - (1:Int)))) λd=>(Option.bind (iD U d a.1) λe=>(Option.bind (sW U b.2.2.1 (wI .i64 (a.1 - (1:Int)))) λf=>(Option.bind (iD U f (15:Int)) λg=>(Option.bind (nE U ((b.1,b.2.1,b.2.2.1,b.2.2.2.1,b.2.2.2.2.1,b.2.2.2.2.2)) ((i.1,a.2)) e a.1 (wI .i64 ((1:Int)+g))) λh=>(c ((wI .i64 (a.1+(1:Int))),h)))))))else(pG i (a.2))
def nD (U:Nat) (a:Dw) (c:Int):Option tX:=
 Option.bind (pK U ((a.1,a.2.1,a.2.2.1,a.2.2.2.1,a.2.2.2.2.1,a.2.2.2.2.2)) c) λb=>(bI (tY U a b) U ((1:Int),b.2))
theorem WR:aV Tryz.prog 26:=Tryz.call26
theorem Bg (U:Nat) {p0:Dw} {p1:Int} (g:Value)  (k:Value)  (n:Value) (r:(aS×fP)) (h:nD U p0 p1=some r):
  aX Tryz.prog 26 #[Value.agg #[vI (p0.1),g,k,n,vB (p0.2.2.2.2.1),vB (p0.2.2.2.2.2)],vI (p1)] [Sl bP g p0.2.1,Sl bP k p0.2.2.1,Sl bP n p0.2.2.2.1] (λx:Value×Value×List Value=>Value.agg #[x.1,x.2.1]) (λx l=>Ar b_ x.1 r.1::Ar cZ.raw x.2.1 x.2.2::lD cB x.2.2 r.2::l) (λ_ l=>l):=by
 refine aX.of Tryz.func26 Z Tryz.ntmps26 Z λc=>?_;refine aW<|aG (aN.box (cs:=[vI (p0.1),g,k,n,vB (p0.2.2.2.2.1),vB (p0.2.2.2.2.2)]) Z Z) Z λu=>aG (aN.alloc (cs:=[lF,lF]) Z Z) Z λo=>aM<|aW<|dV 1 Z<|aA Z<|eX h λm P h=>aG (aN.callQ adu (Fc U g k n m P) Z (n_ [0,1,2] Z)) Z λa=>aG (aN.alloc (cs:=[lF,lF]) Z Z) Z λp=>cD (Know.one ((bE (aE.res 1 Z) dY))) λv=>cD (Know.one (aE.sl (bT (i:=2) (j:=3) Z Z bR))) λw=>bQ 0 (vs:=[a.1,a.2.1]) Z Z (lH v (lH w Z)) Z Z Z<|aM<|aK<|Ch (B:=fR) (λe=>pG m e=some r) (λe f=>[(4,vP o),(5,vP p)]) (λe f=>[bV p [a.1,a.2.1] 29,Ar b_ a.1 m.1,Ar cZ.raw a.2.1 f,lD cB f e,bV o [lF,lF] 29]) ?_ ?_
 ·refine aW<|aC Z<|aM<|aT<|dZ (B:=fR) (tY U p0 m) (λd b=>[(2,vP u),(4,vP o),(5,vP p),(6,vI (d.1))]) (λd b=>[bV p [a.1,a.2.1] 29,Ar b_ a.1 m.1,Ar cZ.raw a.2.1 b,lD cB b d.2,bV o [lF,lF] 29,bV u [vI (p0.1),g,k,n,vB (p0.2.2.2.2.1),vB (p0.2.2.2.2.2)] 24]) ((1:Int),m.2) (a.2.2) h SF (aY.refl _) ?_;intro O d b h;refine aK<|aW<|aA Z<|bU Z<|dK 0 Z<|aB (iY Z (bT (i:=2) (j:=3) Z Z bR) Z) Z<|cO Z<|aM ?_;refine fE h Z (λh=>?_) λh=>?_
  ·refine cK<|aK<|aT ?_;refine JR.start [0,0,0,4,0,16,60,0,252,0,0,1024,0,4096,15868,32252,65020,131071] 17 mixedOrders (by decide +kernel) ?_;refine JR.open (by exact rfl) ?_;refine mA 5 Z<|mA 0 Z<|cY Z<|iS 5 Z<|bF Z<|iW Z (oC Z Z)<|eX h λy E h=>JR.loud Z Z Z (aN.callQ JJ (Bo U g y E) Z (n_ [0] Z)) Z (λJ=>(t_ [([0],[]),([5],[])] Z)) λJ=>iW Z (gH Z)<|eX h λA F h=>JR.loud Z Z Z (aN.callQ DN (lV U  A F) Z .nil) Z (λK=>(t_ [([0],[]),([5],[])] Z)) λK=>iW Z (gH Z)<|iW Z (dC Z Z Z Z Z)<|bK Z (aY.cons 5 Z .nil) .nil (eG 0 Z Z Z Z Z) (aL.h (aY.ix [5] Z Z) .nil (aL.h (aY.ix [5] Z Z) .nil aL.z))<|iW Z (gH Z)<|iW Z (oC Z Z)<|eX h λC G h=>JR.loud Z Z Z (aN.callQ JJ (Bo U k C G) Z (n_ [1] Z)) Z (λL=>(t_ [([0],[]),([5],[])] Z)) λL=>eX h λD H h=>JR.loud Z Z Z (aN.callQ DN (lV U  D H) Z .nil) Z (λM=>(t_ [([0],[]),([5],[])] Z)) λM=>iW Z (Aa Z Z)<|bM 17 Z Z<|eX h λt I h=>aG (Fy (Min:=[Ar cZ.raw a.2.1 b,lD cB b d.2]) (Mr:=[bV p [a.1,a.2.1] 29,Ar b_ a.1 m.1,bV o [lF,lF] 29,bV u [vI (p0.1),g,k,n,vB (p0.2.2.2.2.1),vB (p0.2.2.2.2.2)] 24]) WY (Bh U g k n a.1 a.2.1 b t I) Z (aY.ix [2,3,0,1,4,5] Z Z) (aF.cons (aE.fact 0 Z) (aF.cons (aE.fact 1 Z) (aF.cons (aE.fact 2 Z) (aF.cons (bE (aE.res 1 Z) dY) .nil)))) (λ_ _=>rfl)) Z λN=>eT<|mQ<|aO<|aA Z<|cI Z<|aC Z<|aM ?_;exact lK ((wI .i64 (d.1+(1:Int))),t) (N) h SF (aY.ix [2,3,0,1,4,5] Z Z) (aF.refl _ _)
  refine fH ?_;exact cL (d.2) (b) h SF (aY.ix [0,1,2,3,4] Z Z) (aF.refl _ _)
 intro e f h;unfold pG at h;refine aW<|dV 0 Z<|cD (Know.one ((bE (aE.res 1 Z) dY))) λq=>cD (Know.one (aE.sl (bT (i:=2) (j:=3) Z Z bR))) λs=>bQ 4 (vs:=[a.1,a.2.1]) Z Z (lH q (lH s Z)) Z Z Z<|aM<|aU ?_;cases h;exact fV (a.1,a.2.1,f) Z Z (RV.cell 4 Z Z Z Z) (aY.ix [1,2,3] Z Z) aF.nil
def jV (U:Nat) (a:Int):Option (Int):=
 if a=(0:Int)then(some (32:Int))else(ck (0<=(27:Int)) (ck ((0<=(sP .u32 (wI .u32 ((eB .u32 a (wI .u32 (0 - a)))*(125613361:Int))) (27:Int))∧(sP .u32 (wI .u32 ((eB .u32 a (wI .u32 (0 - a)))*(125613361:Int))) (27:Int))<((32:Nat):Int))∧List.length wP=32) (some (wI .i64 (at' wP (sP .u32 (wI .u32 ((eB .u32 a (wI .u32 (0 - a)))*(125613361:Int))) (27:Int)))))))
theorem Tq:aV Tryz.prog 150:=Tryz.call150
theorem xX (U:Nat) {b:Int} (r:Int) (h:jV U b=some r):
  aX Tryz.prog 150 #[vU (b)] [Gb 0 (cellsOf Hn wP)] (λx:Unit=>vI (r)) (λx l=>l) (λ_ l=>l):=by
 refine aX.of Tryz.func150 Z Tryz.ntmps150 Z λc=>?_;refine aW<|aC Z<|aM<|aK<|aW<|aA Z<|cP Z<|aM ?_;refine fE h Z (λh=>?_) λh=>?_
 ·refine aW<|aC Z<|aM<|aU<|aI ?_;cases h;exact kV Z
 refine cK<|aW<|aA Z<|aA Z<|aB (Te Z) Z<|Au Z<|aB (AT Z Z) Z<|dD h λd h=>aB (LE Z Z d) Z<|dD h λa h=>aB (OV Z Z Z Z Z a.1) Z<|aB (UR (e:=Hn) Z (aE.fact 0 Z) Z Z Z Z a) Z<|aB (Ro Z Z Z) Z<|aC Z<|aM<|aU ?_;cases h;exact kV Z
def jR  (a:Unit):Option (Bool):=
 some (true)
def gQ (U:Nat) (d:aS) (e:Int) (a:Int) (c:(Int)->Option (Bool)):Option (Bool):=
 if a≠(0:Int)then(Option.bind (jV U a) λb=>(ck (0<=b∧b<(List.length d:Int)) (if(eB .u32 (at' d b) e)≠(0:Int)then(some (false))else(c (eB .u32 a (wI .u32 (a - (1:Int))))))))else(jR  (()))
def mI (U:Nat) (c:aS) (a:Int) (b:Unit):Option (Bool):=
 bI (gQ U c a) U (a)
def iA (U:Nat) (a:aS) (b:Int):Option (Bool):=
 mI U a b (())
theorem aas:aV Tryz.prog 144:=Tryz.call144
theorem Bf (U:Nat) {m:aS} {e:Int} (j:Value) (r:Bool) (h:iA U m e=some r):
  aX Tryz.prog 144 #[j,vU (e)] [Sl zP j m,Gb 0 (cellsOf Hn wP)] (λx:Unit=>vB (r)) (λx l=>l) (λ_ l=>l):=by
 refine aX.of Tryz.func144 Z Tryz.ntmps144 Z λc=>?_;unfold iA at h;refine i_ OO<|aW<|cD (Know.one ((aE.fact 0 Z))) λw=>?_;refine aG (aN.box (cs:=[j]) Z (by rw[fL w])) Z λC=>?_;refine aG (aN.box (cs:=[vU (e)]) Z Z) Z λD=>aG (aN.alloc (cs:=[vB (false)]) Z Z) Z λu=>aM<|aK<|Rc (A:=Unit) (B:=qL) (λk g=>⟨16,Kt g⟩) (λk=>jR  k=some r) (λk g=>[(4,vP u)]) (λk g=>[bV u [vB (false)] 4,MN g]) (λk g=>[Sl zP j m,Gb 0 (cellsOf Hn wP)]) ?_ ?_
 ·refine aW<|dK 1 Z<|AP (A:=Unit) (B:=Nat) (vs:=[vU (e)]) (λb=>mI U m e b=some r) (λb a=>Value.func (.func 149) #[] #[vP a]) (λb a=>[bV a [vU (e)] 25,bV u [vB (false)] 4,bV D [vU (e)] 25,bV C [j] 94,MN ([]:qL)]) (λb a=>[Sl zP j m,Gb 0 (cellsOf Hn wP)]) (sG.fn (show aV Tryz.prog 115 from Tryz.call115) Z) Tryz.func115 Z Tryz.ntmps115 Z Z ?_ ?_
  ·refine aW<|aG (aN.box (cs:=[vU (e)]) Z Z) Z λo=>aC Z<|aM<|aW<|aB (yM (cs:=[.tmp 1]) (vs:=[vP o]) Z) Z<|aC Z<|aM<|aU ?_;exact sJ () (o) h (.inl Z) (Gj.r1 Z (RV.tmp Z)) Z (aY.refl _) (aF.refl _ _)
  intro b a h;unfold mI at h;refine aM<|aT<|Gf (i:=4) (cs:=[vP a]) ([]:qL) Z (show aV Tryz.prog 149 from Tryz.call149) Z Tryz.func149 Z Tryz.ntmps149 Z λs f v p=>aT<|dZ (gQ U m e) (λd n=>[(0,yA s),(1,vP a)]) (λd n=>[Lp s v LoopState.ready none,bV a [vU (d)] 25,bV u [vB (false)] 4,bV D [vU (e)] 25,bV C [j] 94,MN (List.cons f ([]:qL))]) (e) () h SF (aY.refl _) ?_;intro E d n h;refine aK<|aW<|dK 1 Z<|rF Z<|aM ?_;refine fE h Z (λh=>?_) λh=>?_
  ·refine cK<|aK<|aT<|aW<|aA Z<|dK 1 Z<|eX h λt y h=>aG (aN.callQ Tq (xX U  t y) Z (n_ [1] Z)) Z λF=>Ot (us:=[vI (t)]) (i:=0) p Z Z Z Z Z Z<|aO<|aC Z<|aM<|S_ (i:=0) Z<|aT<|aK ?_;refine JR.start [0,0,3,7,0,31,63] 5 mixedOrders (by decide +kernel) ?_;refine JR.open (by exact rfl) ?_;refine iS 4 Z<|bF Z<|dD h λq h=>bK Z .nil (lC 0 Z) (aZ Z Z (aE.fact 0 Z) Z Z q) aL.z<|bK Z .nil (lC 0 Z) (bX Z (aE.fact 0 Z) Z Z Z Hu q) aL.z<|iS 3 Z<|bM 5 Z Z<|Au Z<|rF Z<|aM ?_;refine fE h Z (λh=>?_) λh=>?_
   ·refine aW<|gZ 2 Z Z Z Z Z Z<|aM<|aU<|bL<|Wl (i:=0) Z<|aB (mE Z) Z<|aM<|Ta Z<|aU<|bL<|aI<|aI<|bL<|ZO (i:=0) (.inl Z) Z (Gj.r0 Z)<|bL<|aI<|sK (i:=5) (Ds:=(List.cons f ([]:qL))) (.inl Z) Z ?_;cases h;exact fV () Z Z (OG 2 Z Z Z Z) .nil aF.nil
   refine dW<|Wg<|Jr (i:=0) Z<|aB (mE Z) Z<|aM<|IM Z<|dW<|mQ<|aO<|dK 1 Z<|dK 1 Z<|aB (oC Z Z) Z<|Au Z<|gZ 1 Z Z Z Z Z Z<|aM ?_;exact yX (eB .u32 d (wI .u32 (d - (1:Int)))) () h SF Z
  refine qO<|eM<|eM<|wQ<|Wk (i:=0) (.inr Z) Z (Gj.r0 Z)<|mQ ?_;exact IN () (List.cons f ([]:qL)) Z h SF (aY.ix [2,5] Z Z) (aF.refl _ _)
 intro k g h;unfold jR at h;refine aW<|gZ 0 Z Z Z Z Z Z<|aM<|aU<|sK (i:=1) (Ds:=(g)) (.inl Z) Z ?_;cases h;exact fV () Z Z (OG 0 Z Z Z Z) .nil aF.nil
def lZ (U:Nat) (d:aS) (b:Int) (e:Int) (a:Int) (c:Bool):Option (Bool):=
 if c=true then(some (false))else(if b=(1:Int)then(some (decide ((eB .u32 a (wI .u32 (a - (1:Int))))=(0:Int))))else(if b=(2:Int)then(Option.bind (iA U d a) λf=>(some (f)))else(if b=(4:Int)then(some (decide (a=e)))else(some (true)))))
def fX (U:Nat) (c:aS) (d:Int) (b:Int) (a:Int):Option (Bool):=
 if a=(0:Int)then(lZ U c d b a (true))else(lZ U c d b a (decide ((uU .u32 a b)≠(0:Int))))
theorem Tm:aV Tryz.prog 112:=Tryz.call112
theorem xV (U:Nat) {p0:aS} {p1:Int} {p2:Int} {p3:Int} (b:Value) (r:Bool) (h:fX U p0 p1 p2 p3=some r):
  aX Tryz.prog 112 #[b,vI (p1),vU (p2),vU (p3)] [Sl zP b p0,Gb 0 (cellsOf Hn wP)] (λx:Unit=>vB (r)) (λx l=>l) (λ_ l=>l):=by
 refine aX.of Tryz.func112 Z Tryz.ntmps112 Z λc=>?_;refine aW<|aC Z<|aM<|aK<|aK<|eD (λa=>lZ U p0 p1 p2 p3 a=some r) (λa d=>[(0,b),(1,vI (p1)),(2,vU (p2)),(3,vU (p3)),(16,vB (a))]) (λa d=>[]) ?_ ?_
 ·refine aO<|aA Z<|cP Z<|aA Z ?_;refine Dy h Z (λ_ h=>?_) λ_ h=>?_
  ·refine aH Z<|aH Z<|aH Z<|aH Z<|dO Z<|aM ?_;exact gM (true) () h SF Z
  refine cR Z<|cR Z<|aP Z (JG Z Z) Z<|aP Z (DJ Z Z) Z<|fI Z<|aM ?_;exact gM (decide ((uU .u32 p3 p2)≠(0:Int))) () h SF Z
 intro a d h;refine Ab h Z (λ_ h=>?_) λ_ h=>?_
 ·refine aW<|aC Z<|aM<|aU<|aI ?_;cases h;exact kV Z
 refine cK<|aK<|aW<|aA Z<|aM<|aT<|aW<|cP Z<|aC Z<|aM ?_;refine fE h Z (λh=>?_) λh=>?_
 ·refine aW<|aA Z<|aA Z<|aB (oC Z Z) Z<|Au Z<|cP Z<|aC Z<|aM<|aU<|bL<|aI ?_;cases h;exact kV Z
 refine aW<|cP Z<|aC Z<|aM ?_;refine fE h Z (λh=>?_) λh=>?_
 ·refine aW<|aA Z<|aA Z<|eX h λe f h=>aG (aN.callQ aas (Bf U b e f) Z (n_ [0,1] Z)) Z λg=>aC Z<|aM<|aU<|bL<|aI ?_;cases h;exact kV Z
 refine aW<|cP Z<|aC Z<|aM ?_;refine fE h Z (λh=>?_) λh=>?_
 ·refine aW<|aA Z<|aA Z<|cP Z<|aC Z<|aM<|aU<|bL<|aI ?_;cases h;exact kV Z
 refine dW<|mQ<|aW<|aC Z<|aM<|aU ?_;cases h;exact kV Z
def l_  (a:Int):Option (Int):=
 some (a)
def jI (a:fU) (b:jC->Option (Int)) (c:Int):Option (Int):=
 b ((eB .u32 a.1 (wI .u32 (a.1 - (1:Int)))),c)
def eO (U:Nat) (d:aS) (a:fU) (c:jC->Option (Int)):Option (Int):=
 if a.1≠(0:Int)then(Option.bind (jV U a.1) λb=>(ck (0<=b∧b<(List.length d:Int)) (if(eB .u32 (at' d b) a.2)=(0:Int)then(ck (0<=b) (jI a c (Nf .u32 a.2 (Cv .u32 (1:Int) b))))else(jI a c (a.2)))))else(l_  (a.2))
def pT (U:Nat) (c:aS) (b:Int) (a:Unit):Option (Int):=
 bI (eO U c) U (b,(0:Int))
def jH (U:Nat) (c:aS) (b:Int) (d:Int) (a:Int):Option (Int):=
 if b=(1:Int)then(some (eB .u32 a (wI .u32 (0 - a))))else(if b=(2:Int)then(pT U c a (()))else(if b=(4:Int)then(some (d))else(some (a))))
def eZ (U:Nat) (b:aS) (c:Int) (a:Int) (d:Int):Option (Int):=
 if(eB .u32 d a)=(0:Int)then(jH U b c a (eB .u32 a (wI .u32 (0 - a))))else(jH U b c a (eB .u32 d a))
theorem Xb:aV Tryz.prog 83:=Tryz.call83
theorem xW (U:Nat) {p0:aS} {p1:Int} {p2:Int} {p3:Int} (k:Value) (r:Int) (h:eZ U p0 p1 p2 p3=some r):
  aX Tryz.prog 83 #[k,vI (p1),vU (p2),vU (p3)] [Sl zP k p0,Gb 0 (cellsOf Hn wP)] (λx:Unit=>vU (r)) (λx l=>l) (λ_ l=>l):=by
 refine aX.of Tryz.func83 Z Tryz.ntmps83 Z λc=>?_;refine i_ OO<|aW<|cD (Know.one ((aE.fact 0 Z))) λD=>?_;refine aG (aN.box (cs:=[k]) Z (by rw[fL D])) Z λq=>?_;refine aC Z<|aM<|aW<|aA Z<|aA Z<|Au Z<|aC Z<|aM<|aK<|Rc (A:=Int) (B:=Unit) (λg C=>⟨48,Kt ([]:qL)⟩) (λg=>jH U p0 p1 p2 g=some r) (λg C=>[(1,vI (p1)),(2,vU (p2)),(3,vU (g)),(4,vP q),(8,vU (0:Int))]) (λg C=>[bV q [k] 94,MN ([]:qL)]) (λg C=>[Sl zP k p0,Gb 0 (cellsOf Hn wP)]) ?_ ?_
 ·refine aW<|aA Z<|cP Z<|aM ?_;refine fE h Z (λh=>?_) λh=>?_
  ·refine aO<|aA Z<|aA Z<|aB (Te Z) Z<|Au Z<|aC Z<|aM ?_;exact IN (eB .u32 p2 (wI .u32 (0 - p2))) () Z h SF (aY.refl _) (aF.refl _ _)
  refine cK ?_;exact IN (eB .u32 p3 p2) () Z h SF (aY.refl _) (aF.refl _ _)
 intro g C h;refine aK<|aW<|aA Z<|aM<|aT<|aW<|cP Z<|aC Z<|aM ?_;refine fE h Z (λh=>?_) λh=>?_
 ·refine aW<|aA Z<|aA Z<|aB (Te Z) Z<|Au Z<|aC Z<|aM<|aU<|bL<|aI<|sK (i:=1) (Ds:=([]:qL)) (.inl Z) Z ?_;cases h;exact sE Z
 refine aW<|cP Z<|aC Z<|aM ?_;refine fE h Z (λh=>?_) λh=>?_
 ·refine aW<|aG (aN.alloc (cs:=[vU (0:Int)]) Z Z) Z λv=>gZ 0 Z Z Z Z Z Z<|aM<|aK<|Rc (A:=Int) (B:=qL) (λd e=>⟨48,Kt e⟩) (λd=>l_  d=some r) (λd e=>[(9,vP v)]) (λd e=>[bV v [vU (d)] 25,MN e]) (λd e=>[Sl zP k p0,Gb 0 (cellsOf Hn wP)]) ?_ ?_
  ·refine aW<|aA Z<|AP (A:=Unit) (B:=Nat) (vs:=[vU (g)]) (λj=>pT U p0 g j=some r) (λj b=>Value.func (.func 149) #[] #[vP b]) (λj b=>[bV b [vU (g)] 25,bV v [vU (0:Int)] 25,bV q [k] 94,MN ([]:qL)]) (λj b=>[Sl zP k p0,Gb 0 (cellsOf Hn wP)]) (sG.fn (show aV Tryz.prog 115 from Tryz.call115) Z) Tryz.func115 Z Tryz.ntmps115 Z Z ?_ ?_
   ·refine aW<|aG (aN.box (cs:=[vU (g)]) Z Z) Z λu=>aC Z<|aM<|aW<|aB (yM (cs:=[.tmp 1]) (vs:=[vP u]) Z) Z<|aC Z<|aM<|aU ?_;exact sJ () (u) h (.inl Z) (Gj.r1 Z (RV.tmp Z)) Z (aY.refl _) (aF.refl _ _)
   intro j b h;unfold pT at h;refine aM<|aT<|Gf (i:=3) (cs:=[vP b]) ([]:qL) Z (show aV Tryz.prog 149 from Tryz.call149) Z Tryz.func149 Z Tryz.ntmps149 Z λm n p w=>aT<|dZ (eO U p0) (λa s=>[(0,yA m),(1,vP b)]) (λa s=>[Lp m p LoopState.ready none,bV b [vU (a.1)] 25,bV v [vU (a.2)] 25,bV q [k] 94,MN (List.cons n ([]:qL))]) (g,(0:Int)) () h SF (aY.refl _) ?_;intro F a s h;refine aK<|aW<|dK 1 Z<|rF Z<|aM ?_;refine fE h Z (λh=>?_) λh=>?_
   ·refine cK<|aK<|eD (λf=>jI a (bI (eO U p0) F) f=some r) (λf t=>[(0,yA m),(1,vP b)]) (λf t=>[Lp m p LoopState.ready none,bV b [vU (a.1)] 25,bV v [vU (f)] 25,bV q [k] 94,MN (List.cons n ([]:qL))]) ?_ ?_
    ·refine aT<|aW<|aA Z<|dK 1 Z<|eX h λo G h=>aG (aN.callQ Tq (xX U  o G) Z (n_ [1] Z)) Z λH=>Ot (us:=[vI (o)]) (i:=0) w Z Z Z Z Z Z<|aO<|aC Z<|aM<|S_ (i:=0) Z<|aT<|aK ?_;refine JR.start [0,0,3,7,0,31,63] 5 mixedOrders (by decide +kernel) ?_;refine JR.open (by exact rfl) ?_;refine iS 3 Z<|bF Z<|dD h λy h=>bK Z .nil (lC 0 Z) (aZ Z Z (aE.fact 0 Z) Z Z y) aL.z<|bK Z .nil (lC 0 Z) (bX Z (aE.fact 0 Z) Z Z Z Hu y) aL.z<|iS 2 Z<|bM 5 Z Z<|Au Z<|cP Z<|aM ?_;refine fE h Z (λh=>?_) λh=>?_
     ·refine JR.start [0,0,2,7,15] 3 mixedOrders (by decide +kernel) ?_;refine JR.open (by exact rfl) ?_;refine iS 2 Z<|bF Z<|dD h λE h=>iW Z (OZ Z Z E)<|bM 3 Z Z<|aB (ZX Z Z) Z<|gZ 2 Z Z Z Z Z Z<|eT<|Wg<|Jr (i:=0) Z<|aB (mE Z) Z<|aM<|IM Z<|dW<|mQ ?_;exact gM (Nf .u32 a.2 (Cv .u32 (1:Int) o)) () h SF Z
     refine dW<|Wg<|Jr (i:=0) Z<|aB (mE Z) Z<|aM<|IM Z<|dW<|mQ ?_;exact gM (a.2) () h SF Z
    intro f t h;unfold jI at h;refine aO<|dK 1 Z<|dK 1 Z<|aB (oC Z Z) Z<|Au Z<|gZ 1 Z Z Z Z Z Z<|aM ?_;exact yX ((eB .u32 a.1 (wI .u32 (a.1 - (1:Int)))),f) () h SF Z
   refine qO<|eM<|eM<|wQ<|Wk (i:=0) (.inr Z) Z (Gj.r0 Z)<|mQ ?_;exact IN (a.2) (List.cons n ([]:qL)) Z h SF (aY.ix [2,4] Z Z) (aF.refl _ _)
  intro d e h;unfold l_ at h;refine aW<|dK 0 Z<|aC Z<|aM<|aU<|bL<|aI<|sK (i:=1) (Ds:=(e)) (.inl Z) Z ?_;cases h;exact sE Z
 refine aW<|cP Z<|aC Z<|aM ?_;refine fE h Z (λh=>?_) λh=>?_
 ·refine aW<|aA Z<|aC Z<|aM<|aU<|bL<|aI<|sK (i:=1) (Ds:=([]:qL)) (.inl Z) Z ?_;cases h;exact sE Z
 refine dW<|mQ<|aW<|aA Z<|aC Z<|aM<|aU<|sK (i:=1) (Ds:=([]:qL)) (.inl Z) Z ?_;cases h;exact sE Z
def u_  (a:aS):Option aS:=
 some (a)
def rB (c:Int×aS×aS) (b:(Int×aS×aS)->Option aS) (a:aS×aS):Option aS:=
 b ((wI .i64 (c.1+(1:Int))),a.1,a.2)
def rD (c:cF) (b:aS×aS) (e:(aS×aS)->Option aS) (a:Int×aS×aS) (d:(Int×aS×aS)->Option aS):Option aS:=
 if a.1<(List.length (at' c.2 (at' b.1 (0:Int))):Int)then(ck (0<=a.1∧a.1<(List.length (at' c.2 (at' b.1 (0:Int))):Int)) (ck (0<=((at' (at' c.2 (at' b.1 (0:Int))) a.1).1)∧((at' (at' c.2 (at' b.1 (0:Int))) a.1).1)<(List.length a.2.2:Int)) (if(at' a.2.2 ((at' (at' c.2 (at' b.1 (0:Int))) a.1).1))<(0:Int)then(ck (0<=(at' b.1 (0:Int))∧(at' b.1 (0:Int))<(List.length a.2.2:Int)) (ck (0<=((at' (at' c.2 (at' b.1 (0:Int))) a.1).1)∧((at' (at' c.2 (at' b.1 (0:Int))) a.1).1)<(List.length a.2.2:Int)) (ck ((List.length a.2.1:Int)+(List.length ([((at' (at' c.2 (at' b.1 (0:Int))) a.1).1)]):Int)<=1099511627) (rB a d ((a.2.1++([((at' (at' c.2 (at' b.1 (0:Int))) a.1).1)])),(List.set a.2.2 (Int.toNat ((at' (at' c.2 (at' b.1 (0:Int))) a.1).1)) (wI .i64 ((at' a.2.2 (at' b.1 (0:Int)))+(1:Int)))))))))else(rB a d (a.2.1,a.2.2)))))else(e (a.2.1,a.2.2))
def oH (U:Nat) (c:cF) (a:aS×aS) (b:(aS×aS)->Option aS):Option aS:=
 if(0:Int)<(List.length a.1:Int)then(ck (0<=(0:Int)∧(0:Int)<(List.length a.1:Int)) (ck (0<=(1:Int)∧(1:Int)<=(List.length a.1:Int)) (ck (0<=(at' a.1 (0:Int))∧(at' a.1 (0:Int))<(List.length c.2:Int)) (bI (rD c a b) U ((0:Int),(List.drop (Int.toNat (1:Int)) a.1),a.2)))))else(u_  (a.2))
def Ad (U:Nat) (c:cF) (a:Int) (b:aS):Option aS:=
 ck (0<=a∧a<(List.length b:Int)) (bI (oH U c) U (([a]),(List.set b (Int.toNat a) (0:Int))))
def Ae (U:Nat) (c:cF) (d:Int) (a:oB) (b:x_->Option aS):Option aS:=
 if a.1<(List.length (List.replicate (Int.toNat (List.length c.2:Int)) (0:Int)):Int)then(ck (0<=a.1∧a.1<(List.length a.2:Int)) (b ((wI .i64 (a.1+(1:Int))),(List.set a.2 (Int.toNat a.1) (-1:Int)))))else(Ad U c d (a.2))
def jX (U:Nat) (a:cF) (b:Int):Option aS:=
 ck (0<=(List.length a.2:Int)∧(List.length a.2:Int)<=1099511627) (bI (Ae U a b) U ((0:Int),(List.replicate (Int.toNat (List.length a.2:Int)) (0:Int))))
theorem RE:aV Tryz.prog 63:=Tryz.call63
theorem Bm (U:Nat) {d:cF} {o:Int} (s:Value)  (t:Value)  (M:kH) (r:aS) (h:jX U d o=some r):
  aX Tryz.prog 63 #[Value.agg #[s,t],vI (o)] [Sl bP s d.1,S2 a_ t M d.2] (λx:Value=>x) (λx l=>Ar b_ x r::l) (λ_ l=>l):=by
 refine aX.of Tryz.func63 Z Tryz.ntmps63 Z λc=>?_;refine aW<|aG (aN.box (cs:=[s,t]) Z Z) Z λp=>aC Z<|aM<|aW<|bU Z<|dK 0 Z<|aB (iY Z (aE.fact 1 Z) Z) Z<|dD h λQ h=>aG (qP (e:=b_) (0:Int) Z Z Z Z Q Z Z Z) Z λk=>aC Z<|aM<|aK<|eD (λu=>Ad U d o u=some r) (λu N=>[(1,vI (o)),(2,vP p),(5,k)]) (λu N=>[Ar b_ k u,bV p [s,t] 29]) ?_ ?_
 ·refine aW<|aA Z<|aB (gW Z (bE (aE.res 0 Z) dY) Z) Z<|aA Z<|aM<|aT<|dZ (Ae U d o) (λg w=>[(1,vI (o)),(2,vP p),(5,k),(16,vI (List.length (List.replicate (Int.toNat (List.length d.2:Int)) (0:Int)):Int)),(17,vI (g.1))]) (λg w=>[Ar b_ k g.2,bV p [s,t] 29]) ((0:Int),(List.replicate (Int.toNat (List.length d.2:Int)) (0:Int))) () h SF (aY.refl _) ?_;intro R g w h;refine aW<|cO Z<|aM<|aK ?_;refine fE h Z (λh=>?_) λh=>?_
  ·refine cK<|aK<|aT<|aW<|aA Z<|aC Z<|aM<|aO<|aA Z<|aA Z<|dD h λF h=>aB (aZ Z Z (bE (aE.res 0 Z) dY) Z Z F) Z<|AQ 0 (-1:Int) F Z Z Z Z Z Z Z<|eT<|mQ<|aO<|cI Z<|aA Z<|aM ?_;exact yX ((wI .i64 (g.1+(1:Int))),(List.set g.2 (Int.toNat g.1) (-1:Int))) () h SF Z
  refine fH ?_;exact gM (g.2) () h SF Z
 intro u N h;refine aW<|aA Z<|aA Z<|dD h λO h=>aB (aZ Z Z (bE (aE.res 0 Z) dY) Z Z O) Z<|AQ 0 (0:Int) O Z Z Z Z Z Z Z<|aM<|aW<|aA Z<|aG (bY (e:=b_) ([o]) [(0,vI (o))] Z Z Z Z (lR (vI (o)) Z) Z Z Z) Z λT=>aC Z<|aM<|aK<|eD (λm=>u_  m=some r) (λm v=>[(5,k)]) (λm v=>[Ar b_ k m]) ?_ ?_
 ·refine aT<|dZ (B:=Value) (oH U d) (λa q=>[(2,vP p),(5,k),(7,q)]) (λa q=>[Ar b_ q a.1,Ar b_ k a.2,bV p [s,t] 29]) (([o]),(List.set u (Int.toNat o) (0:Int))) (T) h SF (aY.refl _) ?_;intro G a q h;refine aK<|aW<|aA Z<|aB (gW Z (bE (aE.res 0 Z) dY) Z) Z<|aB (wS Z Z) Z<|aM ?_;refine fE h Z (λh=>?_) λh=>?_
  ·refine cK<|aT<|aW<|aA Z<|dD h λy h=>aB (aZ Z Z (bE (aE.res 0 Z) dY) Z Z y) Z<|aB (bX Z (bE (aE.res 0 Z) dY) Z Z Z dG y) Z<|aC Z<|aM<|aW<|aA Z<|dD h λH h=>aG (Ow 0 H Z Z Z Z Z Z) Z λK=>aC Z<|aM<|aW<|bU Z<|dK 2 Z<|aA Z<|dD h λi h=>aB (cH Z Z (aE.fact 1 Z) Z Z i) Z<|aB (cG Z (aE.fact 1 Z) Z Z i) Z<|aB (gW Z (aE.el (aE.fact 1 Z) i.1 i.2) Z) Z<|aA Z<|aM<|aT<|dZ (B:=Value) (rD d a (bI (oH U d) G)) (λb j=>[(2,vP p),(5,k),(7,j),(8,vI (at' a.1 (0:Int))),(41,(at' M (at' a.1 (0:Int))).1),(42,vI (List.length (at' d.2 (at' a.1 (0:Int))):Int)),(43,vI (b.1))]) (λb j=>[Ar b_ j b.2.1,Ar b_ k b.2.2,bV p [s,t] 29]) ((0:Int),(List.drop (Int.toNat (1:Int)) a.1),a.2) (K) h SF (aY.refl _) ?_;intro J b j h;refine aW<|cO Z<|aM<|aK ?_;refine fE h Z (λh=>?_) λh=>?_
   ·refine cK<|aK<|Ch (B:=Value) (λf=>rB b (bI (rD d a (bI (oH U d) G)) J) f=some r) (λf n=>[(2,vP p),(5,k),(7,n),(8,vI (at' a.1 (0:Int))),(41,(at' M (at' a.1 (0:Int))).1),(42,vI (List.length (at' d.2 (at' a.1 (0:Int))):Int)),(43,vI (b.1))]) (λf n=>[Ar b_ n f.1,Ar b_ k f.2,bV p [s,t] 29]) ?_ ?_
    ·refine aT<|aW<|dD h λA h=>aB (aZ Z Z (aE.el (aE.fact 1 Z) i.1 i.2) Z Z A) Z<|aB (iM (cs:=[vI ((at' (at' d.2 (at' a.1 (0:Int))) b.1).1),vI ((at' (at' d.2 (at' a.1 (0:Int))) b.1).2)]) Z (aE.el (aE.fact 1 Z) i.1 i.2) bR Z Z Z Z A) Z<|aG (aN.alloc (cs:=Uv) Z Z) Z λP=>bQ 0 (vs:=[vI ((at' (at' d.2 (at' a.1 (0:Int))) b.1).1),vI ((at' (at' d.2 (at' a.1 (0:Int))) b.1).2)]) Z Z Z Z Z Z<|aM<|aW<|aA Z<|bU Z<|dK 0 Z<|dD h λC h=>aB (aZ Z Z (bE (aE.res 2 Z) dY) Z Z C) Z<|aB (bX Z (bE (aE.res 2 Z) dY) Z Z Z dG C) Z<|cO Z<|aM ?_;refine fE h Z (λh=>?_) λh=>?_
     ·refine aK ?_;refine JR.start [0,0,2,0,0,24,56,120,255,511] 8 mixedOrders (by decide +kernel) ?_;refine JR.open (by exact rfl) ?_;refine bF Z<|cY Z<|iS 0 Z<|bF Z<|bF Z<|dD h λD h=>bK Z (aY.cons 2 Z .nil) .nil (aZ Z Z (bE (aE.res 0 Z) dY) Z Z D) aL.z<|bK Z (aY.cons 2 Z .nil) .nil (bX Z (bE (aE.res 0 Z) dY) Z Z Z dG D) aL.z<|iW Z (Aa Z Z)<|bM 8 Z Z<|dD h λE h=>aB (aZ Z Z (bE (aE.res 2 Z) dY) Z Z E) Z<|AQ 2 (wI .i64 ((at' b.2.2 (at' a.1 (0:Int)))+(1:Int))) E Z Z Z Z Z Z Z<|aM<|aO<|aA Z<|bU Z<|dK 0 Z<|aG (bY (e:=b_) ([((at' (at' d.2 (at' a.1 (0:Int))) b.1).1)]) [(0,vI ((at' (at' d.2 (at' a.1 (0:Int))) b.1).1))] Z Z Z Z (lR (vI ((at' (at' d.2 (at' a.1 (0:Int))) b.1).1)) Z) Z Z Z) Z λS=>dD h λI h=>aG (eN 2 dY Z Z Z (bE (aE.res 0 Z) dY) Z Z Z Z I Z) Z λL=>aC Z<|eT<|mQ ?_;exact cL ((b.2.1++([((at' (at' d.2 (at' a.1 (0:Int))) b.1).1)])),(List.set b.2.2 (Int.toNat ((at' (at' d.2 (at' a.1 (0:Int))) b.1).1)) (wI .i64 ((at' b.2.2 (at' a.1 (0:Int)))+(1:Int))))) (L) h SF (aY.ix [2,3,4] Z Z) (aF.refl _ _)
     refine dW<|mQ ?_;exact cL (b.2.1,b.2.2) (j) h SF (aY.ix [1,2,3] Z Z) (aF.refl _ _)
    intro f n h;unfold rB at h;refine aO<|cI Z<|aA Z<|aM ?_;exact yX ((wI .i64 (b.1+(1:Int))),f.1,f.2) (n) h SF Z
   refine qO<|eM<|eM<|wQ<|mQ ?_;exact yX (b.2.1,b.2.2) (j) h SF Z
  refine fH ?_;exact cL (a.2) () h SF (aY.ix [1] Z Z) (aF.refl _ _)
 intro m v h;unfold u_ at h;refine aW<|aA Z<|aC Z<|aM<|aU ?_;cases h;exact fV (k) Z Z (RV.tmp Z) (aY.refl _) aF.nil
def qR  (a:Unit):Option (Bool):=
 some (true)
def kZ (c:aS) (a:Int) (b:(Int)->Option (Bool)):Option (Bool):=
 if a<(List.length c:Int)then(ck (0<=a∧a<(List.length c:Int)) (if(at' c a)<(0:Int)then(some (false))else(b (wI .i64 (a+(1:Int))))))else(qR  (()))
def dR (U:Nat) (a:cF):Option (Bool):=
 Option.bind (gE U ((a.1,a.2))) λb=>(if(!b)=true then(some (false))else(Option.bind (jX U ((a.1,a.2)) (0:Int)) λc=>(bI (kZ c) U (0:Int))))
theorem RD:aV Tryz.prog 61:=Tryz.call61
theorem xY (U:Nat) {k:cF} (e:Value)  (f:Value)  (m:kH) (r:Bool) (h:dR U k=some r):
  aX Tryz.prog 61 #[Value.agg #[e,f]] [Sl bP e k.1,S2 a_ f m k.2] (λx:Unit=>vB (r)) (λx l=>l) (λ_ l=>l):=by
 refine aX.of Tryz.func61 Z Tryz.ntmps61 Z λc=>?_;refine aW<|aG (aN.box (cs:=[e,f]) Z Z) Z λt=>aC Z<|aM<|aK<|aW<|dV 0 Z<|eX h λp q h=>aG (aN.callQ Nk (zG U e f m p q) Z (n_ [0,1] Z)) Z λu=>aB (mE Z) Z<|aM ?_;refine Ab h Z (λ_ h=>?_) λ_ h=>?_
 ·refine aW<|aC Z<|aM<|aU<|aI ?_;cases h;exact sE Z
 refine cK<|aK<|eD (λi=>qR  i=some r) (λi n=>[]) (λi n=>[]) ?_ ?_
 ·refine aW<|dV 0 Z<|eX h λj s h=>aG (aN.callQ RE (Bm U e f m j s) Z (n_ [0,1] Z)) Z λg=>aB (gW Z (bE (aE.res 0 Z) dY) Z) Z<|aA Z<|aM<|aT<|dZ (kZ j) (λa b=>[(9,g),(10,vI (List.length j:Int)),(11,vI (a))]) (λa b=>[Ar b_ g j]) (0:Int) () h SF (aY.ix [0] Z Z) ?_;intro o a b h;refine aW<|cO Z<|aM<|aK ?_;refine fE h Z (λh=>?_) λh=>?_
  ·refine cK<|aK<|aT<|aW<|dD h λd h=>aB (aZ Z Z (bE (aE.res 0 Z) dY) Z Z d) Z<|aB (bX Z (bE (aE.res 0 Z) dY) Z Z Z dG d) Z<|aC Z<|aM<|aW<|aA Z<|cO Z<|aM ?_;refine fE h Z (λh=>?_) λh=>?_
   ·refine aW<|aC Z<|aM<|aU<|bL<|aI<|aI<|bL<|aI ?_;cases h;exact sE Z
   refine dW<|mQ<|aO<|cI Z<|aA Z<|aM ?_;exact yX (wI .i64 (a+(1:Int))) () h SF Z
  refine fH ?_;exact cL () (()) h SF .nil (aF.refl _ _)
 intro i n h;unfold qR at h;refine aW<|aC Z<|aM<|aU ?_;cases h;exact kV Z
def zU (U:Nat) (a:cF):Option (Bool):=
 Option.bind (dR U ((a.1,a.2))) λb=>(some (b))
theorem WX:aV Tryz.prog 39:=Tryz.call39
theorem Iv (U:Nat) {d:cF} (a:Value)  (b:Value)  (e:kH) (r:Bool) (h:zU U d=some r):
  aX Tryz.prog 39 #[Value.agg #[a,b]] [Sl bP a d.1,S2 a_ b e d.2] (λx:Unit=>vB (r)) (λx l=>l) (λ_ l=>l):=by
 refine aX.of Tryz.func39 Z Tryz.ntmps39 Z λc=>?_;refine aW<|aG (aN.box (cs:=[a,b]) Z Z) Z λi=>aC Z<|aM<|aW<|dV 0 Z<|eX h λf g h=>aG (aN.callQ RD (xY U a b e f g) Z (n_ [0,1] Z)) Z λj=>aC Z<|aM<|aU ?_;cases h;exact sE Z
def sQ  (a:Unit):Option (Bool):=
 some (true)
def lP (c:Int) (a:(Int)->Option (Bool)) (b:Unit):Option (Bool):=
 a (wI .i64 (c+(1:Int)))
def hZ (b:Int) (a:(Int)->Option (Bool)) (c:Bool):Option (Bool):=
 if c=true then(some (false))else(a (wI .i64 (b+(1:Int))))
def g_ (e:bG) (d:Int) (a:Int) (b:(Int)->Option (Bool)) (c:fU):Option (Bool):=
 if(at' (at' e d) a)<c.1 then(hZ a b (true))else(hZ a b (decide (c.2<(at' (at' e d) a))))
def dA (g:cF) (d:bG) (f:aS) (b:Int) (e:(Int)->Option (Bool)) (a:Int) (c:(Int)->Option (Bool)):Option (Bool):=
 if a<(List.length (at' d b):Int)then(ck (0<=a∧a<(List.length (at' d b):Int)) (ck (0<=a∧a<(List.length f:Int)) (if(at' f a)=(-1:Int)then(ck (0<=b∧b<(List.length g.2:Int)) (g_ d b a c ((-1:Int),(wI .i64 ((List.length (at' g.2 b):Int) - (1:Int))))))else(g_ d b a c ((0:Int),(at' f a))))))else(lP b e (()))
def fT (U:Nat) (e:cF) (b:bG) (d:aS) (a:Int) (c:(Int)->Option (Bool)):Option (Bool):=
 if a<(List.length b:Int)then(ck (0<=a∧a<(List.length b:Int)) (if(List.length (at' b a):Int)≠(List.length d:Int)then(some (false))else(bI (dA e b d a c) U (0:Int))))else(sQ  (()))
def fJ (U:Nat) (a:cF) (b:bG) (c:aS):Option (Bool):=
 if(List.length b:Int)≠(List.length a.1:Int)then(some (false))else(bI (fT U a b c) U (0:Int))
theorem WZ:aV Tryz.prog 56:=Tryz.call56
theorem Av (U:Nat) {g:cF} {e:bG} {j:aS} (o:Value)  (p:Value)  (H:kH)  (q:Value)  (E:sD)  (s:Value) (r:Bool) (h:fJ U g e j=some r):
  aX Tryz.prog 56 #[Value.agg #[o,p],q,s] [Sl bP o g.1,S2 a_ p H g.2,S2 bP q E e,Sl bP s j] (λx:Unit=>vB (r)) (λx l=>l) (λ_ l=>l):=by
 refine aX.of Tryz.func56 Z Tryz.ntmps56 Z λc=>?_;refine aW<|aG (aN.box (cs:=[o,p]) Z Z) Z λk=>aC Z<|aM<|aK<|aW<|aA Z<|aB (iY Z (aE.fact 2 Z) Z) Z<|bU Z<|dK 0 Z<|jB (aE.fact 0 Z) Z<|rF Z<|aM ?_;refine fE h Z (λh=>?_) λh=>?_
 ·refine aW<|aC Z<|aM<|aU<|aI ?_;cases h;exact sE Z
 refine cK<|aK<|eD (λC=>sQ  C=some r) (λC F=>[]) (λC F=>[]) ?_ ?_
 ·refine aW<|aA Z<|aB (iY Z (aE.fact 2 Z) Z) Z<|aA Z<|aM<|aT<|dZ (fT U g e j) (λa G=>[(2,s),(3,vP k),(19,q),(20,vI (List.length e:Int)),(21,vI (a))]) (λa G=>[bV k [o,p] 29]) (0:Int) () h SF (aY.refl _) ?_;intro D a G h;refine aW<|cO Z<|aM<|aK ?_;refine fE h Z (λh=>?_) λh=>?_
  ·refine cK<|aK<|eD (λm=>lP a (bI (fT U g e j) D) m=some r) (λm t=>[(2,s),(3,vP k),(19,q),(20,vI (List.length e:Int)),(21,vI (a))]) (λm t=>[bV k [o,p] 29]) ?_ ?_
   ·refine aT<|aW<|aA Z<|dD h λd h=>aB (cH Z Z (aE.fact 2 Z) Z Z d) Z<|aB (cG Z (aE.fact 2 Z) Z Z d) Z<|aC Z<|aC Z<|aM<|aK<|aW<|aA Z<|aB (gW Z (aE.el (aE.fact 2 Z) d.1 d.2) Z) Z<|aA Z<|jB (aE.fact 3 Z) Z<|rF Z<|aM ?_;refine fE h Z (λh=>?_) λh=>?_
    ·refine aW<|aC Z<|aM<|aU<|aI<|bL<|aI<|aI<|bL<|aI ?_;cases h;exact sE Z
    refine cK<|aW<|aA Z<|aB (gW Z (aE.el (aE.fact 2 Z) d.1 d.2) Z) Z<|aA Z<|aM<|aT<|dZ (dA g e j a (bI (fT U g e j) D)) (λb u=>[(2,s),(3,vP k),(7,vI (a)),(19,q),(20,vI (List.length e:Int)),(21,vI (a)),(31,(at' E a).1),(32,vI (List.length (at' e a):Int)),(33,vI (b))]) (λb u=>[bV k [o,p] 29]) (0:Int) () h SF (aY.refl _) ?_;intro B b u h;refine aW<|cO Z<|aM<|aK ?_;refine fE h Z (λh=>?_) λh=>?_
    ·refine cK<|aK<|aT<|aW<|aA Z<|dD h λy h=>aB (aZ Z Z (aE.el (aE.fact 2 Z) d.1 d.2) Z Z y) Z<|aB (bX Z (aE.el (aE.fact 2 Z) d.1 d.2) Z Z Z dG y) Z<|aC Z<|aC Z<|aM<|aK ?_;refine JR.start [0,0,3,7,0,31] 5 mixedOrders (by decide +kernel) ?_;refine JR.open (by exact rfl) ?_;refine bF Z<|bF Z<|dD h λA h=>bK Z .nil (lC 3 Z) (aZ Z Z (aE.fact 0 Z) Z Z A) aL.z<|bK Z .nil (lC 3 Z) (bX Z (aE.fact 0 Z) Z Z Z dG A) aL.z<|iW Z (oQ Z)<|bM 5 Z Z<|aC Z<|aM<|aK<|eD (λf=>g_ e a b (bI (dA g e j a (bI (fT U g e j) D)) B) f=some r) (λf v=>[(2,s),(3,vP k),(7,vI (a)),(10,vI (at' (at' e a) b)),(11,vI (f.1)),(12,vI (f.2)),(19,q),(20,vI (List.length e:Int)),(21,vI (a)),(31,(at' E a).1),(32,vI (List.length (at' e a):Int)),(33,vI (b))]) (λf v=>[bV k [o,p] 29]) ?_ ?_
     ·refine aW<|aA Z<|cP Z<|aM ?_;refine fE h Z (λh=>?_) λh=>?_
      ·refine JR.start [0,1,0,7,15,31,63,0,255] 8 mixedOrders (by decide +kernel) ?_;refine JR.open (by exact rfl) ?_;refine cY Z<|iS 0 Z<|bF Z<|dD h λn h=>bK Z .nil (lC 1 Z) (cH Z Z (aE.fact 0 Z) Z Z n) aL.z<|bK Z .nil (lC 1 Z) (cG Z (aE.fact 0 Z) Z Z n) aL.z<|bK Z .nil (lC 1 Z) (gW Z (aE.el (aE.fact 0 Z) n.1 n.2) Z) aL.z<|iW Z (oC Z Z)<|iW Z (oQ Z)<|bM 8 Z Z<|aC Z<|aM ?_;exact gM ((-1:Int),(wI .i64 ((List.length (at' g.2 a):Int) - (1:Int)))) () h SF Z
      refine cK ?_;exact gM ((0:Int),(at' j b)) () h SF Z
     intro f v h;refine aK<|eD (λi=>hZ b (bI (dA g e j a (bI (fT U g e j) D)) B) i=some r) (λi w=>[(2,s),(3,vP k),(7,vI (a)),(19,q),(20,vI (List.length e:Int)),(21,vI (a)),(31,(at' E a).1),(32,vI (List.length (at' e a):Int)),(33,vI (b)),(58,vB (i))]) (λi w=>[bV k [o,p] 29]) ?_ ?_
     ·refine aO<|aA Z<|aA Z<|cO Z<|aA Z ?_;refine Dy h Z (λ_ h=>?_) λ_ h=>?_
      ·refine aH Z<|aH Z<|aH Z<|dO Z<|aM ?_;exact gM (true) () h SF Z
      refine cR Z<|cR Z<|aP Z (wS Z Z) Z<|fI Z<|aM ?_;exact gM (decide (f.2<(at' (at' e a) b))) () h SF Z
     intro i w h;refine Ab h Z (λ_ h=>?_) λ_ h=>?_
     ·refine aW<|aC Z<|aM<|aU<|bL<|aI<|aI<|bL<|bL<|aI<|aI<|bL<|aI ?_;cases h;exact sE Z
     refine dW<|mQ<|aO<|cI Z<|aA Z<|aM ?_;exact yX (wI .i64 (b+(1:Int))) () h SF Z
    refine qO<|eM<|eM<|wQ<|mQ ?_;exact gM () (()) h SF Z
   intro m t h;unfold lP at h;refine aO<|cI Z<|aA Z<|aM ?_;exact yX (wI .i64 (a+(1:Int))) () h SF Z
  refine fH ?_;exact cL () (()) h SF .nil (aF.refl _ _)
 intro C F h;unfold sQ at h;refine aW<|aC Z<|aM<|aU ?_;cases h;exact kV Z
def j_  (a:Bool):Option (Bool):=
 some (a)
def kT (U:Nat) (a:cF) (c:bG):Option (Bool):=
 Option.bind (zU U ((a.1,a.2))) λd=>(if d=true then(Option.bind (fJ U ((a.1,a.2)) c ([(List.length a.1:Int),(-1:Int),(1:Int),(1:Int),(3:Int),(1:Int)])) λb=>(j_  (b)))else(j_  (false)))
theorem adp:aV Tryz.prog 34:=Tryz.call34
theorem Dv (U:Nat) {b:cF} {o:bG} (g:Value)  (i:Value)  (m:kH)  (j:Value)  (p:sD) (r:Bool) (h:kT U b o=some r):
  aX Tryz.prog 34 #[Value.agg #[g,i],j] [Sl bP g b.1,S2 a_ i m b.2,S2 bP j p o] (λx:Unit=>vB (r)) (λx l=>l) (λ_ l=>l):=by
 refine aX.of Tryz.func34 Z Tryz.ntmps34 Z λc=>?_;refine aW<|aG (aN.box (cs:=[g,i]) Z Z) Z λv=>aC Z<|aM<|aK<|eD (λd=>j_  d=some r) (λd n=>[(4,vB (d))]) (λd n=>[]) ?_ ?_
 ·refine aO<|dV 0 Z<|eX h λq t h=>aG (aN.callQ WX (Iv U g i m q t) Z (n_ [0,1] Z)) Z λw=>aA Z ?_;refine rW (by exact rfl) (by exact rfl) (λa=>?_) (λa=>?_)
  ·have h:=Ik a h;refine aP Z (fW 0 Z Z Z Z) Z<|cR Z<|aP Z (dC Z Z Z Z Z) Z<|aP Z (eG 0 Z Z Z Z Z) Z<|aP Z (gW Z (aE.fact 0 Z) Z) Z<|oP Z (bY (e:=b_) ([(List.length b.1:Int),(-1:Int),(1:Int),(1:Int),(3:Int),(1:Int)]) [(0,vI (List.length b.1:Int)),(1,vI (-1:Int)),(2,vI (1:Int)),(3,vI (1:Int)),(4,vI (3:Int)),(5,vI (1:Int))] Z Z Z Z (XJ (vI (List.length b.1:Int)) (vI (-1:Int)) (vI (1:Int)) (vI (1:Int)) (vI (3:Int)) (vI (1:Int)) Z Z Z Z Z Z) Z Z Z) Z λs=>eX h λf k h=>oP Z (aN.callQ WZ (Av U g i m j p s f k) Z (aF.cons (aE.fact 0 Z) (aF.cons (aE.fact 1 Z) (aF.cons (aE.fact 2 Z) (aF.cons (bE (aE.res 0 Z) dY) .nil))))) Z λu=>dO Z<|aC Z<|aM ?_;exact cL (f) () h SF .nil (aF.refl _ _)
  have h:=DY a h;refine aH Z<|aH Z<|aH Z<|aH Z<|aH Z<|aH Z<|aH Z<|fI Z<|aC Z<|aM ?_;exact cL (false) () h SF .nil (aF.refl _ _)
 intro d n h;unfold j_ at h;refine aU ?_;cases h;exact kV Z
def HK (U:Nat) (a:cF):Option (Bool):=
 Option.bind (dR U ((a.1,a.2))) λb=>(some (b))
theorem adN:aV Tryz.prog 85:=Tryz.call85
theorem VP (U:Nat) {d:cF} (a:Value)  (b:Value)  (e:kH) (r:Bool) (h:HK U d=some r):
  aX Tryz.prog 85 #[Value.agg #[a,b]] [Sl bP a d.1,S2 a_ b e d.2] (λx:Unit=>vB (r)) (λx l=>l) (λ_ l=>l):=by
 refine aX.of Tryz.func85 Z Tryz.ntmps85 Z λc=>?_;refine aW<|aG (aN.box (cs:=[a,b]) Z Z) Z λi=>aC Z<|aM<|aW<|dV 0 Z<|eX h λf g h=>aG (aN.callQ RD (xY U a b e f g) Z (n_ [0,1] Z)) Z λj=>aC Z<|aM<|aU ?_;cases h;exact sE Z
def lQ  (a:Bool):Option (Bool):=
 some (a)
def pL (U:Nat) (a:cF) (c:bG):Option (Bool):=
 Option.bind (HK U ((a.1,a.2))) λd=>(if d=true then(Option.bind (fJ U ((a.1,a.2)) c ([(List.length a.1:Int),(-1:Int)])) λb=>(lQ  (b)))else(lQ  (false)))
theorem adz:aV Tryz.prog 57:=Tryz.call57
theorem Fe (U:Nat) {b:cF} {o:bG} (g:Value)  (i:Value)  (m:kH)  (j:Value)  (p:sD) (r:Bool) (h:pL U b o=some r):
  aX Tryz.prog 57 #[Value.agg #[g,i],j] [Sl bP g b.1,S2 a_ i m b.2,S2 bP j p o] (λx:Unit=>vB (r)) (λx l=>l) (λ_ l=>l):=by
 refine aX.of Tryz.func57 Z Tryz.ntmps57 Z λc=>?_;refine aW<|aG (aN.box (cs:=[g,i]) Z Z) Z λv=>aC Z<|aM<|aK<|eD (λd=>lQ  d=some r) (λd n=>[(4,vB (d))]) (λd n=>[]) ?_ ?_
 ·refine aO<|dV 0 Z<|eX h λq t h=>aG (aN.callQ adN (VP U g i m q t) Z (n_ [0,1] Z)) Z λw=>aA Z ?_;refine rW (by exact rfl) (by exact rfl) (λa=>?_) (λa=>?_)
  ·have h:=Ik a h;refine aP Z (fW 0 Z Z Z Z) Z<|cR Z<|aP Z (dC Z Z Z Z Z) Z<|aP Z (eG 0 Z Z Z Z Z) Z<|aP Z (gW Z (aE.fact 0 Z) Z) Z<|oP Z (bY (e:=b_) ([(List.length b.1:Int),(-1:Int)]) [(0,vI (List.length b.1:Int)),(1,vI (-1:Int))] Z Z Z Z (Kg (vI (List.length b.1:Int)) (vI (-1:Int)) Z Z) Z Z Z) Z λs=>eX h λf k h=>oP Z (aN.callQ WZ (Av U g i m j p s f k) Z (aF.cons (aE.fact 0 Z) (aF.cons (aE.fact 1 Z) (aF.cons (aE.fact 2 Z) (aF.cons (bE (aE.res 0 Z) dY) .nil))))) Z λu=>dO Z<|aC Z<|aM ?_;exact cL (f) () h SF .nil (aF.refl _ _)
  have h:=DY a h;refine aH Z<|aH Z<|aH Z<|aH Z<|aH Z<|aH Z<|aH Z<|fI Z<|aC Z<|aM ?_;exact cL (false) () h SF .nil (aF.refl _ _)
 intro d n h;unfold lQ at h;refine aU ?_;cases h;exact kV Z
def mZ (U:Nat) (a:cF) (c:Int) (b:Bool):Option aS:=
 if b=true then(some ([]:aS))else(Option.bind (jX U ((a.1,a.2)) c) λd=>(some (d)))
def oV (U:Nat) (a:cF) (b:Int):Option aS:=
 Option.bind (gE U ((a.1,a.2))) λc=>(if(!c)=true then(mZ U a b (true))else(if b<(0:Int)then(mZ U a b (true))else(mZ U a b (decide ((List.length a.2:Int)<=b)))))
theorem adA:aV Tryz.prog 58:=Tryz.call58
theorem Hc (U:Nat) {f:cF} {g:Int} (b:Value)  (d:Value)  (j:kH) (r:aS) (h:oV U f g=some r):
  aX Tryz.prog 58 #[Value.agg #[b,d],vI (g)] [Sl bP b f.1,S2 a_ d j f.2] (λx:Value=>x) (λx l=>Ar b_ x r::l) (λ_ l=>l):=by
 refine aX.of Tryz.func58 Z Tryz.ntmps58 Z λc=>?_;refine aW<|aG (aN.box (cs:=[b,d]) Z Z) Z λk=>aC Z<|aM<|aK<|aK<|eD (λe=>mZ U f g e=some r) (λe m=>[(1,vI (g)),(2,vP k),(18,vB (e))]) (λe m=>[bV k [b,d] 29]) ?_ ?_
 ·refine aO<|dV 0 Z<|eX h λo i h=>aG (aN.callQ Nk (zG U b d j o i) Z (n_ [0,1] Z)) Z λq=>aB (mE Z) Z<|aA Z ?_;refine rW (by exact rfl) (by exact rfl) (λa=>?_) (λa=>?_)
  ·have h:=Ik a h;refine aH Z<|aH Z<|dO Z<|aA Z<|aH Z<|aH Z<|aH Z<|aH Z<|aH Z<|dO Z<|aM ?_;exact gM (true) () h SF Z
  have h:=DY a h;refine cR Z<|aP Z (Gq Z Z) Z<|fI Z<|aA Z ?_;refine Dy h Z (λ_ h=>?_) λ_ h=>?_
  ·refine aH Z<|aH Z<|aH Z<|aH Z<|aH Z<|dO Z<|aM ?_;exact gM (true) () h SF Z
  refine cR Z<|aP Z (dC Z Z Z Z Z) Z<|aP Z (eG 0 Z Z Z Z Z) Z<|aP Z (iY Z (aE.fact 1 Z) Z) Z<|aP Z (B_ Z Z) Z<|fI Z<|aM ?_;exact gM (decide ((List.length f.2:Int)<=g)) () h SF Z
 intro e m h;refine Ab h Z (λ_ h=>?_) λ_ h=>?_
 ·refine aW<|aC Z<|aM<|aU<|aI<|i_ (f_ b_) ?_;cases h;exact fV (lF) Z Z (RV.tmp Z) (aY.ix [0] Z Z) aF.nil
 refine cK<|aW<|dV 0 Z<|aA Z<|eX h λn p h=>aG (aN.callQ RE (Bm U b d j n p) Z (n_ [0,1] Z)) Z λs=>aC Z<|aM<|aU ?_;cases h;exact fV (s) Z Z (RV.tmp Z) (aY.ix [0] Z Z) aF.nil
def zA (U:Nat) (b:fU) (a:aS) (c:Int):Option (Bool):=
 ck (0<=b.1∧b.1<(List.length a:Int)) (ck (0<=c∧c<(List.length a:Int)) (some (decide ((at' a b.1)=(wI .i64 ((at' a c) - (1:Int)))))))
theorem adO:aV Tryz.prog 88:=Tryz.call88
theorem Lo (U:Nat) {d:fU} {g:aS} {i:Int} (a:Nat)  (j:Value)  (b:Nat) (r:Bool) (h:zA U d g i=some r):
  aX Tryz.prog 88 #[Value.agg #[vI (d.1),vI (d.2)],vP a,vP b] [bV a [j] 22,Sl bP j g,bV b [vI (i)] 3] (λx:Unit=>vB (r)) (λx l=>l) (λ_ l=>l):=by
 refine aX.of Tryz.func88 Z Tryz.ntmps88 Z λc=>?_;refine aW<|aG (aN.box (cs:=[vI (d.1),vI (d.2)]) Z Z) Z λk=>aC Z<|aM<|aK ?_;refine JR.start [0,0,2,7,15,0,0,96,224,480,1023,2047] 10 mixedOrders (by decide +kernel) ?_;refine JR.open (by exact rfl) ?_;refine bK Z .nil (lC 0 Z) (dQ Z (aE.fact 0 Z) Z Z Z) aL.z<|cY Z<|iS 0 Z<|dD h λe h=>bK Z .nil (lC 1 Z) (aZ Z Z (aE.fact 0 Z) Z Z e) aL.z<|bK Z .nil (lC 1 Z) (bX Z (aE.fact 0 Z) Z Z Z dG e) aL.z<|bK Z .nil (lC 0 Z) (dQ Z (aE.fact 0 Z) Z Z Z) aL.z<|bK Z .nil (lC 2 Z) (dQ Z (aE.fact 0 Z) Z Z Z) aL.z<|dD h λf h=>bK Z .nil (lC 1 Z) (aZ Z Z (aE.fact 0 Z) Z Z f) aL.z<|bK Z .nil (lC 1 Z) (bX Z (aE.fact 0 Z) Z Z Z dG f) aL.z<|iW Z (oC Z Z)<|bM 10 Z Z<|cP Z<|aC Z<|aM<|aU ?_;cases h;exact sE Z
def Am  (a:Unit):Option (Bool):=
 some (true)
def vH (c:aS) (d:aS) (a:Int) (b:(Int)->Option (Bool)):Option (Bool):=
 if a<(List.length c:Int)then(ck (0<=a∧a<(List.length c:Int)) (ck (0<=a∧a<(List.length d:Int)) (if(at' c a)≠(at' d a)then(some (false))else(b (wI .i64 (a+(1:Int)))))))else(Am  (()))
def xN (U:Nat) (a:aS) (b:aS):Option (Bool):=
 if(List.length a:Int)≠(List.length b:Int)then(some (false))else(bI (vH a b) U (0:Int))
theorem adP:aV Tryz.prog 89:=Tryz.call89
theorem KU (U:Nat) {f:aS} {g:aS} (i:Value)  (j:Value) (r:Bool) (h:xN U f g=some r):
  aX Tryz.prog 89 #[i,j] [Sl bP i f,Sl bP j g] (λx:Unit=>vB (r)) (λx l=>l) (λ_ l=>l):=by
 refine aX.of Tryz.func89 Z Tryz.ntmps89 Z λc=>?_;refine aW<|aC Z<|aM<|aK<|aW<|aA Z<|jB (aE.fact 0 Z) Z<|aA Z<|jB (aE.fact 1 Z) Z<|rF Z<|aM ?_;refine fE h Z (λh=>?_) λh=>?_
 ·refine aW<|aC Z<|aM<|aU<|aI ?_;cases h;exact kV Z
 refine cK<|aK<|eD (λd=>Am  d=some r) (λd k=>[]) (λd k=>[]) ?_ ?_
 ·refine aW<|aA Z<|jB (aE.fact 0 Z) Z<|aA Z<|aM<|aT<|dZ (vH f g) (λe m=>[(0,i),(1,j),(12,vI (List.length f:Int)),(13,vI (e))]) (λe m=>[]) (0:Int) () h SF (aY.refl _) ?_;intro n e m h;refine aW<|cO Z<|aM<|aK ?_;refine fE h Z (λh=>?_) λh=>?_
  ·refine cK<|aK<|aT<|aW<|aA Z<|aC Z<|aM<|aK ?_;refine JR.start [0,0,3,7,0,0,48,112,255] 8 mixedOrders (by decide +kernel) ?_;refine JR.open (by exact rfl) ?_;refine bF Z<|bF Z<|dD h λa h=>bK Z .nil (lC 0 Z) (aZ Z Z (aE.fact 0 Z) Z Z a) aL.z<|bK Z .nil (lC 0 Z) (bX Z (aE.fact 0 Z) Z Z Z dG a) aL.z<|bF Z<|bF Z<|dD h λb h=>bK Z .nil (lC 1 Z) (aZ Z Z (aE.fact 0 Z) Z Z b) aL.z<|bK Z .nil (lC 1 Z) (bX Z (aE.fact 0 Z) Z Z Z dG b) aL.z<|bM 8 Z Z<|rF Z<|aM ?_;refine fE h Z (λh=>?_) λh=>?_
   ·refine aW<|aC Z<|aM<|aU<|bL<|aI<|aI<|bL<|aI ?_;cases h;exact kV Z
   refine dW<|mQ<|aO<|cI Z<|aA Z<|aM ?_;exact yX (wI .i64 (e+(1:Int))) () h SF Z
  refine fH ?_;exact gM () (()) h SF Z
 intro d k h;unfold Am at h;refine aW<|aC Z<|aM<|aU ?_;cases h;exact kV Z
def wU (U:Nat) (a:Int) (c:aS) (e:aS) (d:Int):Option (Bool):=
 ck (0<=a∧a<(List.length c:Int)) (Option.bind (xN U e ([(at' c a),d])) λb=>(some (b)))
def Cy (U:Nat) (b:Int) (c:aS) (d:aS) (a:Unit):Option (Bool):=
 wU U b c d (-1:Int)
def tG (U:Nat) (d:cF) (b:Int) (e:aS) (g:aS) (a:Int) (c:(Int)->Option (Bool)):Option (Bool):=
 if a<(List.length (at' d.2 b):Int)then(ck (0<=a∧a<(List.length (at' d.2 b):Int)) (Option.bind (zA U ((((at' (at' d.2 b) a).1),((at' (at' d.2 b) a).2))) e b) λf=>(if f=true then(wU U b e g (a))else(c (wI .i64 (a+(1:Int)))))))else(Cy U b e g (()))
def wG (U:Nat) (b:cF) (a:Int) (c:aS) (d:aS):Option (Bool):=
 ck (0<=a∧a<(List.length b.2:Int)) (bI (tG U b a c d) U (0:Int))
theorem adB:aV Tryz.prog 59:=Tryz.call59
theorem Qn (U:Nat) {f:cF} {b:Int} {j:aS} {o:aS} (p:Value)  (q:Value)  (F:kH)  (n:Value)  (v:Value) (r:Bool) (h:wG U f b j o=some r):
  aX Tryz.prog 59 #[Value.agg #[p,q],vI (b),n,v] [Sl bP p f.1,S2 a_ q F f.2,Sl bP n j,Sl bP v o] (λx:Unit=>vB (r)) (λx l=>l) (λ_ l=>l):=by
 refine aX.of Tryz.func59 Z Tryz.ntmps59 Z λc=>?_;refine aW<|aG (aN.box (cs:=[p,q]) Z Z) Z λN=>aG (aN.box (cs:=[vI (b)]) Z Z) Z λk=>cD (Know.one ((aE.fact 2 Z))) λy=>?_;refine aG (aN.box (cs:=[n]) Z (by rw[fL y])) Z λm=>?_;refine aC Z<|aM<|aW<|dV 2 Z<|dK 1 Z<|aB (yM (cs:=[.tmp 6,.tmp 5]) (vs:=[vP m,vP k]) Z) Z<|AP (A:=Int) (B:=Unit) (vs:=[Value.agg #[p,q],vI (b),Value.func (.func 88) #[] #[vP m,vP k]]) (λi=>wU U b j o i=some r) (λi w=>vI (i)) (λi w=>[bV m [n] 22,bV k [vI (b)] 3]) (λi w=>[Sl bP p f.1,S2 a_ q F f.2,Sl bP n j,Sl bP v o]) (sG.fn (show aV Tryz.prog 87 from Tryz.call87) Z) Tryz.func87 Z Tryz.ntmps87 Z Z ?_ ?_
 ·refine aW<|aG (aN.box (cs:=[p,q]) Z Z) Z λH=>aC Z<|aM<|aK<|eD (λg=>Cy U b j o g=some r) (λg s=>[]) (λg s=>[bV m [n] 22,bV k [vI (b)] 3]) ?_ ?_
  ·refine aW<|bU Z<|dK 0 Z<|aA Z<|dD h λd h=>aB (cH Z Z (aE.fact 1 Z) Z Z d) Z<|aB (cG Z (aE.fact 1 Z) Z Z d) Z<|aB (gW Z (aE.el (aE.fact 1 Z) d.1 d.2) Z) Z<|aA Z<|aM<|aT<|dZ (tG U f b j o) (λa t=>[(2,Value.func (.func 88) #[] #[vP m,vP k]),(13,(at' F b).1),(14,vI (List.length (at' f.2 b):Int)),(15,vI (a))]) (λa t=>[bV m [n] 22,bV k [vI (b)] 3]) (0:Int) () h SF (aY.ix [1,2] Z Z) ?_;intro J a t h;refine aW<|cO Z<|aM<|aK ?_;refine fE h Z (λh=>?_) λh=>?_
   ·refine cK<|aK<|aT<|aW<|aA Z<|dD h λu h=>aB (aZ Z Z (aE.el (aE.fact 1 Z) d.1 d.2) Z Z u) Z<|aB (iM (cs:=[vI ((at' (at' f.2 b) a).1),vI ((at' (at' f.2 b) a).2)]) Z (aE.el (aE.fact 1 Z) d.1 d.2) bR Z Z Z Z u) Z<|aG (aN.alloc (cs:=Uv) Z Z) Z λI=>aC Z<|bQ 0 (vs:=[vI ((at' (at' f.2 b) a).1),vI ((at' (at' f.2 b) a).2)]) Z Z Z Z Z Z<|aM<|aW<|aA Z<|dV 0 Z<|eX h λC E h=>aG (v_ (vs:=[Value.agg #[vI ((at' (at' f.2 b) a).1),vI ((at' (at' f.2 b) a).2)]]) (cs:=[vP m,vP k]) adO Z (Lo U m n k C E) Z (aF.cons (aE.res 1 Z) (aF.cons (aE.fact 2 Z) (aF.cons (aE.res 2 Z) .nil))) (λ_ _=>rfl)) Z λM=>aM ?_;refine Ab h Z (λ_ h=>?_) λ_ h=>?_
    ·refine aW<|aA Z<|aC Z<|aM<|aU<|bL<|aI<|aI<|bL<|aI ?_;exact sJ (a) () h (.inl Z) (Gj.r1 Z (RV.tmp Z)) Z (aY.ix [1,2] Z Z) (aF.refl _ _)
    refine dW<|mQ<|aO<|cI Z<|aA Z<|aM ?_;exact lK (wI .i64 (a+(1:Int))) () h SF (aY.ix [1,2] Z Z) (aF.refl _ _)
   refine fH ?_;exact gM () (()) h SF Z
  intro g s h;unfold Cy at h;refine aW<|aC Z<|aM<|aU ?_;exact sJ (-1:Int) () h (.inl Z) (Gj.r1 Z (RV.tmp Z)) Z (aY.refl _) (aF.refl _ _)
 intro i w h;refine aC Z<|aM<|aW<|aA Z<|dK 0 Z<|dK 1 Z<|dD h λG h=>aB (aZ Z Z (aE.fact 2 Z) Z Z G) Z<|aB (bX Z (aE.fact 2 Z) Z Z Z dG G) Z<|aA Z<|aG (bY (e:=b_) ([(at' j b),i]) [(0,vI (at' j b)),(1,vI (i))] Z Z Z Z (Kg (vI (at' j b)) (vI (i)) Z Z) Z Z Z) Z λK=>eX h λz D h=>aG (aN.callQ adP (KU U v K z D) Z (aF.cons (aE.fact 3 Z) (aF.cons (bE (aE.res 0 Z) dY) .nil))) Z λL=>aC Z<|aM<|aU ?_;cases h;exact sE Z
def Cw  (a:Unit):Option (Bool):=
 some (true)
def AA (U:Nat) (e:cF) (c:bG) (f:aS) (a:Int) (b:(Int)->Option (Bool)):Option (Bool):=
 if a<(List.length c:Int)then(ck (0<=a∧a<(List.length c:Int)) (Option.bind (wG U ((e.1,e.2)) a f (at' c a)) λd=>(if(!d)=true then(some (false))else(b (wI .i64 (a+(1:Int)))))))else(Cw  (()))
def wF (U:Nat) (a:cF) (b:bG):Option (Bool):=
 Option.bind (pL U ((a.1,a.2)) b) λc=>(if(!c)=true then(some (false))else(Option.bind (oV U ((a.1,a.2)) (0:Int)) λd=>(bI (AA U a b d) U (0:Int))))
theorem adq:aV Tryz.prog 35:=Tryz.call35
theorem Qm (U:Nat) {j:cF} {k:bG} (d:Value)  (e:Value)  (n:kH)  (m:Value)  (t:sD) (r:Bool) (h:wF U j k=some r):
  aX Tryz.prog 35 #[Value.agg #[d,e],m] [Sl bP d j.1,S2 a_ e n j.2,S2 bP m t k] (λx:Unit=>vB (r)) (λx l=>l) (λ_ l=>l):=by
 refine aX.of Tryz.func35 Z Tryz.ntmps35 Z λc=>?_;refine aW<|aG (aN.box (cs:=[d,e]) Z Z) Z λu=>aC Z<|aM<|aK<|aW<|dV 0 Z<|aA Z<|eX h λw y h=>aG (aN.callQ adz (Fe U d e n m t w y) Z (n_ [0,1,2] Z)) Z λB=>aB (mE Z) Z<|aM ?_;refine Ab h Z (λ_ h=>?_) λ_ h=>?_
 ·refine aW<|aC Z<|aM<|aU<|aI ?_;cases h;exact sE Z
 refine cK<|aW<|dV 0 Z<|eX h λp z h=>aG (aN.callQ adA (Hc U d e n p z) Z (n_ [0,1] Z)) Z λs=>aC Z<|aM<|aK<|eD (λi=>Cw  i=some r) (λi f=>[]) (λi f=>[]) ?_ ?_
 ·refine aW<|aA Z<|aB (iY Z (aE.fact 2 Z) Z) Z<|aA Z<|aM<|aT<|dZ (AA U j k p) (λa g=>[(2,vP u),(5,s),(14,m),(15,vI (List.length k:Int)),(16,vI (a))]) (λa g=>[Ar b_ s p,bV u [d,e] 29]) (0:Int) () h SF (aY.refl _) ?_;intro v a g h;refine aW<|cO Z<|aM<|aK ?_;refine fE h Z (λh=>?_) λh=>?_
  ·refine cK<|aK<|aT<|aW<|aA Z<|dD h λb h=>aB (cH Z Z (aE.fact 2 Z) Z Z b) Z<|aB (cG Z (aE.fact 2 Z) Z Z b) Z<|aC Z<|aC Z<|aM<|aW<|dV 1 Z<|aA Z<|aA Z<|aA Z<|eX h λo q h=>aG (aN.callQ adB (Qn U d e n s ((at' t a).1) o q) Z (aF.cons (aE.fact 0 Z) (aF.cons (aE.fact 1 Z) (aF.cons (bE (aE.res 0 Z) dY) (aF.cons (aE.el (aE.fact 2 Z) b.1 b.2) .nil))))) Z λA=>aB (mE Z) Z<|aM ?_;refine Ab h Z (λ_ h=>?_) λ_ h=>?_
   ·refine aW<|aC Z<|aM<|aU<|bL<|aI<|aI<|bL<|aI ?_;cases h;exact sE Z
   refine dW<|mQ<|aO<|cI Z<|aA Z<|aM ?_;exact yX (wI .i64 (a+(1:Int))) () h SF Z
  refine fH ?_;exact cL () (()) h SF .nil (aF.refl _ _)
 intro i f h;unfold Cw at h;refine aW<|aC Z<|aM<|aU ?_;cases h;exact kV Z
def Ba  (a:Unit):Option (Bool):=
 some (true)
def qJ (a:Int) (c:(Int)->Option (Bool)) (b:Bool):Option (Bool):=
 if b=true then(some (false))else(c (wI .i64 (a+(1:Int))))
def jZ (b:bG) (a:Int) (c:(Int)->Option (Bool)):Option (Bool):=
 if a<(List.length b:Int)then(ck (0<=a∧a<(List.length b:Int)) (ck (0<=(2:Int)∧(2:Int)<(List.length (at' b a):Int)) (if(at' (at' b a) (2:Int))≠(0:Int)then(qJ a c (true))else(ck (0<=(5:Int)∧(5:Int)<(List.length (at' b a):Int)) (if(at' (at' b a) (5:Int))≠(0:Int)then(qJ a c (true))else(ck (0<=(3:Int)∧(3:Int)<(List.length (at' b a):Int)) (ck (0<=(0:Int)∧(0:Int)<(List.length b:Int)) (ck (0<=(3:Int)∧(3:Int)<(List.length (at' b (0:Int)):Int)) (qJ a c (decide ((at' (at' b a) (3:Int))≠(at' (at' b (0:Int)) (3:Int)))))))))))))else(Ba  (()))
def qI (U:Nat) (b:bG) (a:Bool):Option (Bool):=
 if a=true then(some (false))else(bI (jZ b) U (0:Int))
def Ee (U:Nat) (c:cF) (d:bG) (a:bG):Option (Bool):=
 Option.bind (wF U ((c.1,c.2)) a) λb=>(qI U d ((!b)))
def xS (U:Nat) (b:cF) (c:bG) (a:bG):Option (Bool):=
 Ee U b c (a)
def tD (U:Nat) (d:cF) (c:bG) (a:Int×bG) (b:(Int×bG)->Option (Bool)):Option (Bool):=
 if a.1<(List.length c:Int)then(ck (0<=a.1∧a.1<(List.length c:Int)) (ck (0<=(0:Int)∧(0:Int)<=(2:Int)∧(2:Int)<=(2:Int)∧(2:Int)<=(List.length (at' c a.1):Int)) (ck (0<=a.1∧a.1<(List.length a.2:Int)) (b ((wI .i64 (a.1+(1:Int))),(List.set a.2 (Int.toNat a.1) (List.drop (Int.toNat (0:Int)) (List.take (Int.toNat (2:Int)) (at' c a.1)))))))))else(xS U d c (a.2))
def jU (U:Nat) (b:cF) (a:bG):Option (Bool):=
 Option.bind (kT U ((b.1,b.2)) a) λc=>(if(!c)=true then(qI U a (true))else(ck (0<=(List.length a:Int)∧(List.length a:Int)<=1099511627) (bI (tD U b a) U ((0:Int),(List.replicate (Int.toNat (List.length a:Int)) ([]:aS))))))
theorem WP:aV Tryz.prog 14:=Tryz.call14
theorem Fu (U:Nat) {p0:cF} {p1:bG} (C:Value)  (D:Value)  (F:kH)  (s:Value)  (G:sD) (r:Bool) (h:jU U p0 p1=some r):
  aX Tryz.prog 14 #[Value.agg #[C,D],s] [Sl bP C p0.1,S2 a_ D F p0.2,S2 bP s G p1] (λx:Unit=>vB (r)) (λx l=>l) (λ_ l=>l):=by
 refine aX.of Tryz.func14 Z Tryz.ntmps14 Z λc=>?_;refine aW<|aG (aN.box (cs:=[C,D]) Z Z) Z λS=>aC Z<|aM<|aK<|aK<|eD (λH=>qI U p1 H=some r) (λH b4=>[(1,s),(17,vB (H))]) (λH b4=>[]) ?_ ?_
 ·refine JR.start [0,0,3,7,15,31,31,95,255,511,1023] 8 mixedOrders (by decide +kernel) ?_;refine JR.open (by exact rfl) ?_;refine mA 0 Z<|bF Z<|eX h λW X h=>JR.loud Z Z Z (aN.callQ adp (Dv U C D F s G W X) Z (n_ [0,1,2] Z)) Z (λaa=>(t_ [] Z)) λaa=>iW Z (mE Z)<|iW Z (gH Z) ?_;refine JR.guard (by exact rfl) (by exact rfl) (by exact rfl) (λw=>?_) (λw=>?_)
  ·have h:=Ik w h;refine bO Z Z Z Z<|bO Z Z Z Z<|bO Z Z Z Z<|bM 8 Z Z<|aH Z<|aH Z<|dO Z<|aM ?_;exact cL (true) () h SF .nil (aF.refl _ _)
  have h:=DY w h;refine eF Z (aY.cons 0 Z .nil) .nil (fW 0 Z Z Z Z) (hkI Z)<|eF Z .nil .nil (gH Z) (hkI Z)<|Wm (A:=bG) (B:=Lc) (vs:=[s]) (λn=>Ee U p0 p1 n=some r) (λn d=>d.1) (λn d=>[Ar cZ.raw d.1 d.2,bV S [C,D] 29]) (λn d=>[Rlf bP d.2 n,Sl bP C p0.1,S2 a_ D F p0.2,S2 bP s G p1]) Z Z Z Z (sG.fn (show aV Tryz.prog 36 from Tryz.call36) Z) Tryz.func36 Z Tryz.ntmps36 Z Z (λ_ _=>(t_ [([1],[])] Z)) ?_ ?_
  ·refine aW<|aC Z<|aM<|aW<|aA Z<|aB (iY Z (aE.fact 2 Z) Z) Z<|dD h λT h=>ZL bP (Int.toNat (List.length p1:Int))<|aG (qP (e:=cZ.raw) (lF) Z Z Z Z T Z Z Z) Z λy=>aC Z<|aM<|aK<|BH (B:=fR) (λo=>xS U p0 p1 o=some r) (λo p=>[(3,y)]) (λo p=>[Ar cZ.raw y p,bV S [C,D] 29]) (λo p=>[Rlf bP p o,Sl bP C p0.1,S2 a_ D F p0.2,S2 bP s G p1]) ?_ ?_
   ·refine aW<|aA Z<|aB (iY Z (aE.fact 3 Z) Z) Z<|aA Z<|aM<|aT<|Ge (B:=fR) (tD U p0 p1) (λb f=>[(3,y),(9,s),(10,vI (List.length p1:Int)),(11,vI (b.1))]) (λb f=>[Ar cZ.raw y f,bV S [C,D] 29]) (λb f=>[Rlf bP f b.2,Sl bP C p0.1,S2 a_ D F p0.2,S2 bP s G p1]) ((0:Int),(List.replicate (Int.toNat (List.length p1:Int)) ([]:aS))) (List.replicate (Int.toNat (List.length p1:Int)) (lF)) h SF (aY.refl _) (aF.refl _ _) ?_;intro ab b f h;refine aW<|cO Z<|aM<|aK ?_;refine fE h Z (λh=>?_) λh=>?_
    ·refine cK<|aK<|aT<|aW<|aA Z<|dD h λg h=>aB (cH Z Z (aE.fact 3 Z) Z Z g) Z<|aB (cG Z (aE.fact 3 Z) Z Z g) Z<|aC Z<|aC Z<|aM<|aO<|aA Z<|aA Z<|aA Z<|dD h λE h=>aB (US Z Z Z Z (aE.el (aE.fact 3 Z) g.1 g.2) Z Z E) Z<|dD h λP h=>aB (cH Z Z (Jx (i:=0) (j:=0) Z Z) Z Z P) Z<|cD (Know.one ((Jw (aE.el (aE.fact 3 Z) g.1 g.2) Z E))) λK=>UH 0 0 P Z Z Z Z K Z<|ZP (k:=Int.toNat b.1) 0 (vs:=f) Z (Jw (aE.el (aE.fact 3 Z) g.1 g.2) Z E)<|eT<|mQ<|aO<|cI Z<|aA Z<|aM ?_;exact yX ((wI .i64 (b.1+(1:Int))),(List.set b.2 (Int.toNat b.1) (List.drop (Int.toNat (0:Int)) (List.take (Int.toNat (2:Int)) (at' p1 b.1))))) (List.set f (Int.toNat b.1) (sl3 ((at' G b.1).1) (Int.toNat (0:Int)) (Int.toNat (2:Int)) (Int.toNat (2:Int)) 1)) h SF Z
    refine fH ?_;exact gM (b.2) (f) h SF Z
   intro o p h;unfold xS at h;refine aW<|aA Z<|aC Z<|aM<|aU ?_;exact sJ (o) (y,p) h (.inl Z) (Gj.r1 Z (RV.tmp Z)) Z (aY.refl _) (aF.refl _ _)
  intro n d h;refine bM 8 Z Z<|eX h λQ Y h=>oP Z (aN.callQ adq (Qm U C D F d.1 (List.zip d.2 n) Q Y) Z (aF.cons (aE.fact 1 Z) (aF.cons (aE.fact 2 Z) (aF.cons (Jx (i:=0) (j:=0) Z Z) .nil)))) Z λac=>aP Z (mE Z) Z<|fI Z<|aM ?_;exact cL ((!Q)) () h SF .nil (n_ [1,2,3] Z)
 intro H b4 h;refine Ab h Z (λ_ h=>?_) λ_ h=>?_
 ·refine aW<|aC Z<|aM<|aU<|aI ?_;cases h;exact kV Z
 refine cK<|aK<|eD (λR=>Ba  R=some r) (λR b7=>[]) (λR b7=>[]) ?_ ?_
 ·refine aW<|aA Z<|aB (iY Z (aE.fact 2 Z) Z) Z<|aA Z<|aM<|aT<|dZ (jZ p1) (λm I=>[(1,s),(18,s),(19,vI (List.length p1:Int)),(20,vI (m))]) (λm I=>[]) (0:Int) () h SF (aY.refl _) ?_;intro V m I h;refine aW<|cO Z<|aM<|aK ?_;refine fE h Z (λh=>?_) λh=>?_
  ·refine cK<|aK<|aT<|aW<|dD h λa h=>aB (cH Z Z (aE.fact 2 Z) Z Z a) Z<|aB (cG Z (aE.fact 2 Z) Z Z a) Z<|aC Z<|aM<|aK<|eD (λt=>qJ m (bI (jZ p1) V) t=some r) (λt J=>[(1,s),(18,s),(19,vI (List.length p1:Int)),(20,vI (m)),(44,vB (t))]) (λt J=>[]) ?_ ?_
   ·refine JR.start [0,1,3,7,15,31,63,127,255,511,1023,2047,4095,8191,2047,18431,51199,116735,247807,524287,1048575] 19 mixedOrders (by decide +kernel) ?_;refine JR.open (by exact rfl) ?_;refine bF Z<|dD h λL h=>bK Z .nil (lC 2 Z) (aZ Z Z (aE.el (aE.fact 0 Z) a.1 a.2) Z Z L) aL.z<|bK Z .nil (lC 2 Z) (bX Z (aE.el (aE.fact 0 Z) a.1 a.2) Z Z Z dG L) aL.z<|iW Z (DJ Z Z)<|bF Z ?_;refine BX (by exact rfl) (by exact rfl) (by exact rfl) (λu=>?_) (λu=>?_)
    ·have h:=Ik u h;refine bO Z Z Z Z<|bO Z Z Z Z<|bO Z Z Z Z<|bO Z Z Z Z<|iW Z (IT Z Z)<|bF Z<|bO Z Z Z Z<|bO Z Z Z Z<|bO Z Z Z Z<|bO Z Z Z Z<|bO Z Z Z Z<|bO Z Z Z Z<|bO Z Z Z Z<|bO Z Z Z Z<|bM 19 Z Z<|aH Z<|dO Z<|aM ?_;exact gM (true) () h SF Z
    have h:=ifN u h;refine eF Z .nil .nil (gH Z) aL.z<|dD h λM h=>eF Z .nil (lC 2 Z) (aZ Z Z (aE.el (aE.fact 0 Z) a.1 a.2) Z Z M) aL.z<|eF Z .nil (lC 2 Z) (bX Z (aE.el (aE.fact 0 Z) a.1 a.2) Z Z Z dG M) aL.z<|eF Z .nil .nil (DJ Z Z) aL.z<|iW Z (Gr Z Z)<|bF Z ?_;refine BX (by exact rfl) (by exact rfl) (by exact rfl) (λv=>?_) (λv=>?_)
    ·have h:=Ik v h;refine bO Z Z Z Z<|bO Z Z Z Z<|bO Z Z Z Z<|bO Z Z Z Z<|bO Z Z Z Z<|bO Z Z Z Z<|bO Z Z Z Z<|bO Z Z Z Z<|bM 19 Z Z<|aH Z<|dO Z<|aM ?_;exact gM (true) () h SF Z
    have h:=ifN v h;refine eF Z .nil .nil (gH Z) aL.z<|dD h λN h=>eF Z .nil (lC 2 Z) (aZ Z Z (aE.el (aE.fact 0 Z) a.1 a.2) Z Z N) aL.z<|eF Z .nil (lC 2 Z) (bX Z (aE.el (aE.fact 0 Z) a.1 a.2) Z Z Z dG N) aL.z<|eF Z .nil .nil (gH Z) aL.z<|dD h λq h=>eF Z .nil (lC 2 Z) (cH Z Z (aE.fact 0 Z) Z Z q) aL.z<|eF Z .nil (lC 2 Z) (cG Z (aE.fact 0 Z) Z Z q) aL.z<|dD h λO h=>eF Z .nil (lC 2 Z) (aZ Z Z (aE.el (aE.fact 0 Z) q.1 q.2) Z Z O) aL.z<|eF Z .nil (lC 2 Z) (bX Z (aE.el (aE.fact 0 Z) q.1 q.2) Z Z Z dG O) aL.z<|bM 19 Z Z<|aP Z (DJ Z Z) Z<|fI Z<|aM ?_;exact gM (decide ((at' (at' p1 m) (3:Int))≠(at' (at' p1 (0:Int)) (3:Int)))) () h SF Z
   intro t J h;refine Ab h Z (λ_ h=>?_) λ_ h=>?_
   ·refine aW<|aC Z<|aM<|aU<|bL<|aI<|aI<|bL<|aI ?_;cases h;exact kV Z
   refine dW<|mQ<|aO<|cI Z<|aA Z<|aM ?_;exact yX (wI .i64 (m+(1:Int))) () h SF Z
  refine fH ?_;exact gM () (()) h SF Z
 intro R b7 h;unfold Ba at h;refine aW<|aC Z<|aM<|aU ?_;cases h;exact kV Z
end Go.Proofs.YtmdlcmbplnhdnaaGreatDoor
section
set_option maxRecDepth 100000
namespace Go.Gx
open Go Go.Sx Go.Proofs Go.Proofs.YtmdlcmbplnhdnaaGreatDoor
noncomputable section
def agY (a:List GV) (H:GH):OR:=a1 a λb=>ob (RJ H b) λp0=>ob (gE 1000 p0) λr=>Uc r H
def agW (a:List GV) (H:GH):OR:=a2 a λb c=>ob (agH H b) λp0=>ob (dSc .i64 c) λp1=>ob (nD 1000 p0 p1) λr=>Sw r H
def acu (a:List GV) (H:GH):OR:=a4 a λb c d e=>ob (Xr H b) λp0=>ob (dSc .i64 c) λp1=>ob (dSc .u32 d) λp2=>ob (dSc .u32 e) λp3=>ob (fX 1000 p0 p1 p2 p3) λr=>Uc r H
def agX (a:List GV) (H:GH):OR:=a4 a λb c d e=>ob (Xr H b) λp0=>ob (dSc .i64 c) λp1=>ob (dSc .u32 d) λp2=>ob (dSc .u32 e) λp3=>ob (eZ 1000 p0 p1 p2 p3) λr=>some (.int .u32 r,H)
def agV (a:List GV) (H:GH):OR:=a2 a λb c=>ob (RJ H b) λp0=>ob (acp H c) λp1=>ob (jU 1000 p0 p1) λr=>Uc r H
def XN (f:Nat) (a:List GV) (H:GH):Option (GV×GH):=bif Nat.beq f 86 then agY a H else bif Nat.beq f 26 then agW a H else bif Nat.beq f 112 then acu a H else bif Nat.beq f 83 then agX a H else bif Nat.beq f 14 then agV a H else none
abbrev gl:Nat->zN:=glb 0 (cellsOf Hn wP)
def gp:GP:=⟨wL,72,XN,XM 190⟩
section
variable {T:Nat} {w0:eV (gl T)} {w:World} {ρ:dX} {H H':GH} {g:GV} {us:List GV} {vs:List Value}
theorem abm (h:agY us H=some (g,H')) (R:fQ w0 ρ H w) (m:pE ρ us vs):kI Tryz.prog w0 ρ 86 vs w g H':=by
 obtain⟨p,rfl,h⟩:=Tf h;obtain⟨j,c,h⟩:=aD.1 h;obtain⟨r,l,h⟩:=aD.1 h;obtain⟨o,rfl,d⟩:=m.one;obtain⟨e,i,n,rfl,a,b⟩:=LM R d c;obtain⟨rfl,rfl⟩:=FK h;exact CK Nk (zG 1000 (p0:=j) e i n r l) R (List.forall_mem_cons.2 ⟨a,List.forall_mem_cons.2 ⟨b,λf k=>absurd k List.not_mem_nil⟩⟩) λρ=> .bool _
theorem abk (h:agW us H=some (g,H')) (R:fQ w0 ρ H w) (i:pE ρ us vs):kI Tryz.prog w0 ρ 26 vs w g H':=by
 obtain⟨z,A,rfl,h⟩:=MZ h;obtain⟨o,d,h⟩:=aD.1 h;obtain⟨p,e,h⟩:=aD.1 h;obtain⟨r,v,h⟩:=aD.1 h;obtain⟨x,vs,rfl,j,i⟩:=i.of_cons;obtain⟨y,rfl,k⟩:=i.one;obtain⟨l,m,n,rfl,a,b,c⟩:=aaO R j d;obtain rfl:=DV k e;obtain⟨q,s,t,rfl,rfl⟩:=PQ h;exact Sc agM agN q s t WR (Bg 1000 (p0:=o) (p1:=p) l m n r v) R (List.forall_mem_cons.2 ⟨a,List.forall_mem_cons.2 ⟨b,List.forall_mem_cons.2 ⟨c,λf u=>absurd u List.not_mem_nil⟩⟩⟩)
theorem X_ (h:acu us H=some (g,H')) (R:fQ w0 ρ H w) (a:pE ρ us vs):kI Tryz.prog w0 ρ 112 vs w g H':=by
 obtain⟨z,A,B,C,rfl,h⟩:=M_ h;obtain⟨m,b,h⟩:=aD.1 h;obtain⟨n,c,h⟩:=aD.1 h;obtain⟨o,d,h⟩:=aD.1 h;obtain⟨p,e,h⟩:=aD.1 h;obtain⟨r,u,h⟩:=aD.1 h;obtain⟨q,vs,rfl,i,a⟩:=a.of_cons;obtain⟨v,vs,rfl,j,a⟩:=a.of_cons;obtain⟨x,vs,rfl,k,a⟩:=a.of_cons;obtain⟨y,rfl,l⟩:=a.one;have s:=Po R i b;obtain rfl:=DV j c;obtain rfl:=DV k d;obtain rfl:=DV l e;obtain⟨rfl,rfl⟩:=FK h;exact CK Tm (xV 1000 (p0:=m) (p1:=n) (p2:=o) (p3:=p) q r u) R (List.forall_mem_cons.2 ⟨s,List.forall_mem_cons.2 ⟨R.glb,λf t=>absurd t List.not_mem_nil⟩⟩) λρ=> .bool _
theorem abl (h:agX us H=some (g,H')) (R:fQ w0 ρ H w) (a:pE ρ us vs):kI Tryz.prog w0 ρ 83 vs w g H':=by
 obtain⟨z,A,B,C,rfl,h⟩:=M_ h;obtain⟨m,b,h⟩:=aD.1 h;obtain⟨n,c,h⟩:=aD.1 h;obtain⟨o,d,h⟩:=aD.1 h;obtain⟨p,e,h⟩:=aD.1 h;obtain⟨r,u,h⟩:=aD.1 h;obtain⟨q,vs,rfl,i,a⟩:=a.of_cons;obtain⟨v,vs,rfl,j,a⟩:=a.of_cons;obtain⟨x,vs,rfl,k,a⟩:=a.of_cons;obtain⟨y,rfl,l⟩:=a.one;have s:=Po R i b;obtain rfl:=DV j c;obtain rfl:=DV k d;obtain rfl:=DV l e;cases h;exact CK Xb (xW 1000 (p0:=m) (p1:=n) (p2:=o) (p3:=p) q r u) R (List.forall_mem_cons.2 ⟨s,List.forall_mem_cons.2 ⟨R.glb,λf t=>absurd t List.not_mem_nil⟩⟩) λρ=> .int _ _
theorem abj (h:agV us H=some (g,H')) (R:fQ w0 ρ H w) (e:pE ρ us vs):kI Tryz.prog w0 ρ 14 vs w g H':=by
 obtain⟨x,y,rfl,h⟩:=MZ h;obtain⟨m,c,h⟩:=aD.1 h;obtain⟨n,d,h⟩:=aD.1 h;obtain⟨r,s,h⟩:=aD.1 h;obtain⟨v,vs,rfl,i,e⟩:=e.of_cons;obtain⟨o,rfl,j⟩:=e.one;obtain⟨k,l,t,rfl,a,b⟩:=LM R i c;obtain⟨u,p⟩:=Xp R j d;obtain⟨rfl,rfl⟩:=FK h;exact CK WP (Fu 1000 (p0:=m) (p1:=n) k l t o u r s) R (List.forall_mem_cons.2 ⟨a,List.forall_mem_cons.2 ⟨b,List.forall_mem_cons.2 ⟨p,λf q=>absurd q List.not_mem_nil⟩⟩⟩) λρ=> .bool _
theorem Nw {f:Nat} (h:XN f us H=some (g,H')) (R:fQ w0 ρ H w) (a:pE ρ us vs):kI Tryz.prog w0 ρ f vs w g H':=by
 unfold XN at h;cases b:Nat.beq f 86 with
 |true=>rw[b]at h;rw[Nat.eq_of_beq_eq_true b];exact abm h R a
 |false=>
 rw[b]at h;cases c:Nat.beq f 26 with
 |true=>rw[c]at h;rw[Nat.eq_of_beq_eq_true c];exact abk h R a
 |false=>
 rw[c]at h;cases d:Nat.beq f 112 with
 |true=>rw[d]at h;rw[Nat.eq_of_beq_eq_true d];exact X_ h R a
 |false=>
 rw[d]at h;cases e:Nat.beq f 83 with
 |true=>rw[e]at h;rw[Nat.eq_of_beq_eq_true e];exact abl h R a
 |false=>
 rw[e]at h;cases i:Nat.beq f 14 with
 |true=>rw[i]at h;rw[Nat.eq_of_beq_eq_true i];exact abj h R a
 |false=>
 rw[i]at h;cases h
end
theorem aei:agL Tryz.prog wL=true:=by kernel_rfl
theorem Jl:fG Tryz.prog wL:=⟨Qz,aeh aei⟩
theorem aeJ {a:zN} (b:eV a):sF Tryz.prog b (LK wL 98 Tryz.f98):=Xg Jl mixedOrders Tryz.func98 Tryz.call98 (by kernel_rfl)
theorem aec (a:Array Value) (w:World) (c:a.size=2):CallsDIn (FR none) 0 Tryz.prog 97 a .returning w λe f g=>∃v,e = .returned v∧f = .returning∧MQ w g:=by
 obtain⟨d,h,b⟩:=YC (r:=Fi wL (LK wL 98 Tryz.f98) (Nl Tryz.f97) (evC wL (LK wL 98 Tryz.f98) (λ_ _ _ _=>none) (Xe Tryz.f97) 0 ⟨[],0,[]⟩ (GN [])) (Nl Tryz.f97).tail ⟨[(aaK Tryz.f97,.inil)],H0⟩) (by kernel_rfl);exact U_ (ch:=LK wL 98 Tryz.f98) (lp:=λ_ _ _ _=>none) Jl mixedOrders aeJ Io Tryz.func97 Z Z Z (by decide +kernel) (λi w=>by simp[execOp,resolve,invoke,builtin]) (by kernel_rfl) (by kernel_rfl) Z (by rw[c];decide +kernel) h b
theorem agO {i:zN} {a:FuncId->List GV->GH->Option (GV×GH)} (o:∀(b:eV i) {f us H g H'},a f us H=some (g,H')->∀c w d,fQ b c H w->pE c us d->kI Tryz.prog b c f d w g H') (b:eV i):UF Tryz.prog ⟨wL,72,a,XM 190⟩ HU.fns b:=by
 refine⟨Jl,mixedOrders,λh=> ?_,o b,λh c w d H R n=>abd Tryz.func190 Z Z Z Z h c w d H R n,λR l j k=> ?_⟩
 ·obtain⟨e,m,h⟩:=aD.1 (show ob (Ul _) _=some _ from h);cases h;obtain⟨p,q,r⟩:=YQ m;exact⟨p,q,PR r⟩
 ·exact adV (tb:=wL) (T1:=3) (T2:=67) (cc:=97) Jl Tryz.func72 Tryz.call72 Tryz.call97 Z Z Z (Tj (by kernel_rfl)) (Tj (by kernel_rfl)) (Uq Z Z) (Uq Z Z) (Yn Z Z) (Yn Z Z) aec R l j k
theorem XP {T:Nat} (a:eV (gl T)):UF Tryz.prog gp HU.fns a:=agO (λa f d H g c h i w e R b=>Nw h R b) a
def gp0:GP:=⟨wL,72,λ_ _ _=>none,XM 190⟩
theorem ajV (a:eV noG):UF Tryz.prog gp0 HU.fns a:=agO (λa f c H g b h=>by cases h) a
end
end Go.Gx
end
