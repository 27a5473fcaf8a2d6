/- Models and proofs. Conditions: none. -/
import Derived.Test.YtmdlcmbplnhdnaaGreatDoorZRCl4
import Derived.Test.YtmdlcmbplnhdnaaGreatDoorZRCl2
set_option linter.unusedVariables false
set_option linter.unusedSimpArgs false
set_option maxHeartbeats 4000000
set_option maxRecDepth 20000
namespace Go.Gx
open Go Go.Sx
section
variable {P:Program} {gs:yX} {w0:eK gs} {w:World} {ρ:dN} {H:GH}
theorem Cq {f:Nat} {a:List Value} {L:List aZ} {V:Value} {g:GV} (c:aW P f) (d:aX P f a.toArray L (λ_:Unit=>V) (λ_ l=>l) (λ_ l=>l)) (R:fI w0 ρ H w) (b:∀h∈L,h.p w All) (i:∀ρ,Rl ρ g V):kE P w0 ρ f a w g H:=by
 refine .inr ⟨c _ w,(d w All b).mono ?_⟩;rintro e j ⟨_,rfl,t⟩;exact⟨V,ρ,rfl,dN.le_refl _,R.ext' t.old.ext,i _⟩
theorem Rm {V W:Type} {e:cY V} {g:V->List GV} {q:cY W} {s:W->List GV} (hg:∀ρ x,oQ ρ (g x) (e.enc x)) (I:∀ρ x,oQ ρ (s x) (q.enc x)) {f:Nat} {S:List Value} {L:List aZ} {r:List V×List (List W)} (C:r.1≠[]) (D:r.2≠[]) (h3:∀U∈r.2,U≠[]) (hb:aW P f)
  (hm:aX P f S.toArray L (λx:Value×Value×List Value=>Value.agg #[x.1,x.2.1]) (λx l=>Ar e x.1 r.1::Ar cY.raw x.2.1 x.2.2::kX q x.2.2 r.2::l) (λ_ l=>l)) (R:fI w0 ρ H w) (hL:∀h∈L,h.p w All):
  kE P w0 ρ f S w (.agg [.sl H.n 0 r.1.length e.sz,.sl (uM q.sz s r.2 (H.new (.cells (r.1.flatMap g)))).2.n 0 r.2.length 1]) ((uM q.sz s r.2 (H.new (.cells (r.1.flatMap g)))).2.new (.cells (uM q.sz s r.2 (H.new (.cells (r.1.flatMap g)))).1)):=by
 refine .inr ⟨hb _ w,(hm w All hL).mono ?_⟩;rintro en A ⟨x,rfl,t⟩;obtain⟨F,O,_⟩:=t.own;have q0:C_ _ A (F 0) x.1 r.1:=O.res 0 _ Z;have q1:C_ cY.raw A (F 1) x.2.1 x.2.2:=O.res 1 _ Z;obtain⟨z,G,q2,Q,q4⟩:(kX q x.2.2 r.2).p A (F 2):=O.res 2 _ Z;have R':=R.ext' t.old.ext;have E:∀i k,F i k->w.heap.size<=k:=λi k c=>by
  rcases(O.rng i k c).1 with h|h
  ·exact h
  exact h.elim
 obtain⟨X,y,R1,K,A1⟩:=Ho (B:=λk=>w.heap.size<=k) R' (λa o l C D=>EH.start R a o l C D) (λk c=> .inl (Nat.le_trans R.ext.size c)) (E 0) q0 C (MQ (hg ρ) r.1);obtain⟨ad,j,R2,M,A2⟩:=JY I r.2 x.2.2 G _ X _ R1 A1 (λk c=> .inl (Nat.le_trans R.ext.size c.1)) z h3 q2 (λi k c=>⟨E _ _ (Q i k c),λu=>by have:=O.dis _ _ k (Q i k c) u;omega⟩) q4;have J:x.2.2≠[]:=λu=>by rw[u]at z;exact D (List.eq_nil_of_length_eq_zero z.symm)
 obtain⟨Y,m,R3,N,_⟩:=Ho (cs:=(uM q.sz s r.2 (H.new (.cells (r.1.flatMap g)))).1) (F:=F 1) R2 A2 (λk c=> .inl (Nat.le_trans R.ext.size c.1.1)) (λk c=>⟨⟨E _ _ c,λu=>by have:=O.dis _ _ k c u;omega⟩,λi hi=>by have:=O.dis _ _ k c (Q i k hi);omega⟩) q1 J (by rw[LJ];exact M);refine⟨_,Y,rfl,dN.le_trans y (dN.le_trans j m),R3,?_⟩
 refine FQ (vs:=[x.1,x.2.1]) (.cons ((K.le j).le m) (.cons (by rw[<-z];exact N) .nil)) λv hv=>?_;have d:∀{γ:Type} {e:cY γ} {F:Nat->Prop} {v:Value} {U:List γ},C_ e A F v U->one v=true:=λh=>by
  obtain⟨_,_,h⟩:=h;rcases h with⟨rfl,_⟩|⟨b,ac,aa,T,ab,rfl,_⟩<;>rfl
 simp at hv;rcases hv with rfl|rfl
 ·exact d q0
 exact d q1
end
noncomputable section
def Ln (H:GH) (v:GV):Option (List Int):=MM H 1 (dI .i64) v
def WJ (H:GH) (v:GV):Option (List (List (Int×Int))):=MM H 1 (dS H 2 (dP 1 (dI .i64) (dI .i64))) v
def abJ (H:GH) (v:GV):Option (List (List Int)):=MM H 1 (dS H 1 (dI .i64)) v
def QW (H:GH) (v:GV):Option (List Int×List (List (Int×Int))):=ob v.asA λc=>List.casesOn (motive:=λ_=>Option (List Int×List (List (Int×Int)))) c none λa r=>List.casesOn (motive:=λ_=>Option (List Int×List (List (Int×Int)))) r none λb r=>List.casesOn (motive:=λ_=>Option (List Int×List (List (Int×Int)))) r (ob (Ln H a) λx=>ob (WJ H b) λy=>some (x,y)) λ_ _=>none
end
section
variable {P:Program} {gs:yX} {w0:eK gs} {w:World} {ρ:dN} {H:GH}
theorem Ga (R:fI w0 ρ H w) {v:GV} {V:Value} {a:List Int} (b:Rl ρ v V) (h:Ln H v=some a):(Sl (eI.int .i64) V a).p w All:=by
 obtain⟨d,rfl,c⟩:=Cj R (λ_ _=>trivial) (h_.int .i64) b h;rw[List.map_id];exact c
theorem WI (R:fI w0 ρ H w) {v:GV} {V:Value} {b:List (List Int)} (c:Rl ρ v V) (h:abJ H v=some b):∃a,(S2 (eI.int .i64) V a b).p w All:=by
 obtain⟨a,rfl,d⟩:=Cj R (λ_ _=>trivial) (h_.sl R (λ_ _=>trivial) (h_.int .i64)) c h;exact⟨a,d,by simp⟩
theorem Uv (R:fI w0 ρ H w) {v:GV} {V:Value} {b:List (List (Int×Int))} (c:Rl ρ v V) (h:WJ H v=some b):∃a,(S2 (eI.pair (eI.int .i64) (eI.int .i64)) V a b).p w All:=by
 obtain⟨a,rfl,d⟩:=Cj R (λ_ _=>trivial) (h_.sl R (λ_ _=>trivial) (h_.pair (h_.int .i64) (h_.int .i64))) c h;exact⟨a,d,by simp⟩
theorem Lm (R:fI w0 ρ H w) {v:GV} {V:Value} {p:List Int×List (List (Int×Int))} (j:Rl ρ v V) (h:QW H v=some p):∃e f i,V = .agg #[e,f]∧(Sl (eI.int .i64) e p.1).p w All∧(S2 (eI.pair (eI.int .i64) (eI.int .i64)) f i p.2).p w All:=by
 obtain⟨c,g,h⟩:=aC.1 (show ob v.asA _=some p from h);rw[Jv g]at j;obtain⟨k,rfl,d,_⟩:=j.agg_inv;cases c with
 |nil=>cases h
 |cons a c=>
 cases c with
 |nil=>cases h
 |cons b c=>
 cases c with
 |cons _ _=>cases h
 |nil=>
 obtain⟨x,n,h⟩:=aC.1 (show ob (Ln H a) _=some p from h);obtain⟨y,o,h⟩:=aC.1 h;cases h;obtain⟨e,k,rfl,l,d⟩:=d.of_cons;obtain⟨f,k,rfl,m,d⟩:=d.of_cons;rw[d.of_nil];obtain⟨i,q⟩:=Uv R m o;exact⟨e,f,i,rfl,Ga R l n,q⟩
end
noncomputable section
section
variable {α R:Type}
def a0 (a:List α) (k:Option R):Option R:=List.casesOn (motive:=λ_=>Option R) a k (λ_ _=>none)
def a1 (b:List α) (k:α->Option R):Option R:=List.casesOn (motive:=λ_=>Option R) b none λa r=>a0 r (k a)
def a2 (b:List α) (k:α->α->Option R):Option R:=List.casesOn (motive:=λ_=>Option R) b none λa r=>a1 r (k a)
def a3 (b:List α) (k:α->α->α->Option R):Option R:=List.casesOn (motive:=λ_=>Option R) b none λa r=>a2 r (k a)
def a4 (b:List α) (k:α->α->α->α->Option R):Option R:=List.casesOn (motive:=λ_=>Option R) b none λa r=>a3 r (k a)
def a5 (us:List α) (k:α->α->α->α->α->Option R):Option R:=List.casesOn (motive:=λ_=>Option R) us none λa r=>a4 r (k a)
def a6 (b:List α) (k:α->α->α->α->α->α->Option R):Option R:=List.casesOn (motive:=λ_=>Option R) b none λa r=>a5 r (k a)
theorem Zv {a:List α} {k:Option R} {r:R} (h:a0 a k=some r):a=[]∧k=some r:=by
 cases a with
 |nil=>exact⟨rfl,h⟩
 |cons _ _=>cases h
theorem Sr {a:List α} {k:α->Option R} {r:R} (h:a1 a k=some r):∃x,a=[x]∧k x=some r:=by
 cases a with
 |nil=>cases h
 |cons x a=>obtain⟨rfl,h⟩:=Zv h;exact⟨x,rfl,h⟩
theorem Mt {a:List α} {k:α->α->Option R} {r:R} (h:a2 a k=some r):∃x y,a=[x,y]∧k x y=some r:=by
 cases a with
 |nil=>cases h
 |cons x a=>obtain⟨y,rfl,h⟩:=Sr h;exact⟨x,y,rfl,h⟩
theorem Zw {a:List α} {k:α->α->α->Option R} {r:R} (h:a3 a k=some r):∃x y z,a=[x,y,z]∧k x y z=some r:=by
 cases a with
 |nil=>cases h
 |cons x a=>obtain⟨y,z,rfl,h⟩:=Mt h;exact⟨x,y,z,rfl,h⟩
theorem Mu {a:List α} {k:α->α->α->α->Option R} {r:R} (h:a4 a k=some r):∃x y z u,a=[x,y,z,u]∧k x y z u=some r:=by
 cases a with
 |nil=>cases h
 |cons x a=>obtain⟨y,z,u,rfl,h⟩:=Zw h;exact⟨x,y,z,u,rfl,h⟩
theorem Zx {a:List α} {k:α->α->α->α->α->Option R} {r:R} (h:a5 a k=some r):∃x y z u v,a=[x,y,z,u,v]∧k x y z u v=some r:=by
 cases a with
 |nil=>cases h
 |cons x a=>obtain⟨y,z,u,v,rfl,h⟩:=Mu h;exact⟨x,y,z,u,v,rfl,h⟩
theorem Zy {a:List α} {k:α->α->α->α->α->α->Option R} {r:R} (h:a6 a k=some r):∃x y z u v w,a=[x,y,z,u,v,w]∧k x y z u v w=some r:=by
 cases a with
 |nil=>cases h
 |cons x a=>obtain⟨y,z,u,v,w,rfl,h⟩:=Zx h;exact⟨x,y,z,u,v,w,rfl,h⟩
end
def dSc (k:IntKind) (v:GV):Option Int:=ob v.asI λp=>bif eqK p.1 k then some p.2 else none
def WK (H:GH) (v:GV):Option (List Int):=MM H 1 (dI .u32) v
def afU (H:GH) (v:GV):Option (Int×List Int×List Int×List Int×Bool×Bool):=ob v.asA λg=>a6 g λa b c d e f=>ob (dSc .i64 a) λn=>ob (Ln H b) λx=>ob (Ln H c) λy=>ob (Ln H d) λz=>ob e.asB λp=>ob f.asB λq=>some (n,x,y,z,p,q)
def gI (n:Int):List GV:=[.int .i64 n]
def gP (p:Int×Int):List GV:=[.int .i64 p.1,.int .i64 p.2]
def fcI {R:Type} (l:List Int):(List Int->R)->R:=List.rec (motive:=λ_=>(List Int->R)->R) (λk=>k []) (λx _ a k=>fi x λx=>a λr=>k (x::r)) l
def fcP {R:Type} (l:List (Int×Int)):(List (Int×Int)->R)->R:=List.rec (motive:=λ_=>(List (Int×Int)->R)->R) (λk=>k []) (λx _ c k=>fi x.1 λa=>fi x.2 λb=>c λr=>k ((a,b)::r)) l
def fcR {R:Type} (l:List (List (Int×Int))):(List (List (Int×Int))->R)->R:=List.rec (motive:=λ_=>(List (List (Int×Int))->R)->R) (λk=>k []) (λx _ a k=>fcP x λx=>a λr=>k (x::r)) l
theorem WZ {R:Type}:∀(l:List Int) (k:List Int->R),fcI l k=k l
 | [],k=>rfl
 |x::l,k=>by
  show fi x (λx=>fcI l λr=>k (x::r))=_;rw[Lu,WZ l]
theorem W_ {R:Type}:∀(l:List (Int×Int)) (k:List (Int×Int)->R),fcP l k=k l
 | [],k=>rfl
 |x::l,k=>by
  show fi x.1 (λa=>fi x.2 λb=>fcP l λr=>k ((a,b)::r))=_;rw[Lu,Lu,W_ l]
theorem Xa {R:Type}:∀(l:List (List (Int×Int))) (k:List (List (Int×Int))->R),fcR l k=k l
 | [],k=>rfl
 |x::l,k=>by
  show fcP x (λx=>fcR l λr=>k (x::r))=_;rw[W_,Xa l]
def Tm (b:Bool) (H:GH):OR:=Bool.casesOn (motive:=λ_=>OR) b (some (.bool false,H)) (some (.bool true,H))
def RF (r:List Int×List (List (Int×Int))) (H:GH):OR:=fcI r.1 λx=>fcR r.2 λy=>bif Nat.beq x.length 0 then none else bif Nat.beq y.length 0 then none else bif y.any λl=>Nat.beq l.length 0 then none else
 fc (x.flatMap gI) λl=>H.newK (.cells l) λh a=>fc (uM 2 gP y a).1 λd=>sn x.length λn=>sn y.length λm=>(uM 2 gP y a).2.newK (.cells d) λc b=>some (.agg [.sl h 0 n 1,.sl c 0 m 1],b)
end
section
variable {P:Program} {gs:yX} {w0:eK gs} {w:World} {ρ:dN} {H H':GH} {g:GV}
theorem oQ.one {x:GV} {vs:List Value} (h:oQ ρ [x] vs):∃V,vs=[V]∧Rl ρ x V:=by
 obtain⟨v,vs,rfl,a,b⟩:=h.of_cons;rw[b.of_nil];exact⟨v,rfl,a⟩
theorem Dy {k:IntKind} {v:GV} {V:Value} {n:Int} (a:Rl ρ v V) (h:dSc k v=some n):V = .int k n:=by
 obtain⟨p,c,h⟩:=aC.1 (show ob v.asI _=some n from h);obtain⟨b,h⟩:=bM.1 h;cases h;rw[nT c]at a;rw[a.int_inv,Hj b]
theorem Wa {v:GV} {V:Value} {b:Bool} (a:Rl ρ v V) (h:v.asB=some b):V = .bool b:=by
 rw[BA h]at a;exact a.bool_inv
theorem OF (R:fI w0 ρ H w) {v:GV} {V:Value} {a:List Int} (b:Rl ρ v V) (h:WK H v=some a):(Sl (eI.int .u32) V a).p w All:=by
 obtain⟨d,rfl,c⟩:=Cj R (λ_ _=>trivial) (h_.int .u32) b h;rw[List.map_id];exact c
theorem aao (R:fI w0 ρ H w) {v:GV} {V:Value} {p:Int×List Int×List Int×List Int×Bool×Bool} (l:Rl ρ v V) (h:afU H v=some p):
  ∃m o s,V = .agg #[.int .i64 p.1,m,o,s,.bool p.2.2.2.2.1,.bool p.2.2.2.2.2]∧(Sl (eI.int .i64) m p.2.1).p w All∧(Sl (eI.int .i64) o p.2.2.1).p w All∧(Sl (eI.int .i64) s p.2.2.2.1).p w All:=by
 obtain⟨T,k,h⟩:=aC.1 (show ob v.asA _=some p from h);obtain⟨a,b,c,d,e,f,rfl,h⟩:=Zy h;obtain⟨n,I,h⟩:=aC.1 h;obtain⟨x,L,h⟩:=aC.1 h;obtain⟨y,M,h⟩:=aC.1 h;obtain⟨z,N,h⟩:=aC.1 h;obtain⟨q,J,h⟩:=aC.1 h;obtain⟨r,K,h⟩:=aC.1 h;cases h;rw[Jv k]at l;obtain⟨j,rfl,i,_⟩:=l.agg_inv;obtain⟨U,j,rfl,B,i⟩:=i.of_cons;obtain⟨O,j,rfl,C,i⟩:=i.of_cons;obtain⟨Q,j,rfl,D,i⟩:=i.of_cons;obtain⟨S,j,rfl,E,i⟩:=i.of_cons;obtain⟨W,j,rfl,F,i⟩:=i.of_cons;obtain⟨X,rfl,G⟩:=i.one;have t:=Dy B I;have u:=Wa F J;have A:=Wa G K;subst t u A;exact⟨O,Q,S,rfl,Ga R C L,Ga R D M,Ga R E N⟩
theorem Fu {b:Bool} (h:Tm b H=some (g,H')):g = .bool b∧H'=H:=by
 cases b<;>cases h<;>exact⟨rfl,rfl⟩
theorem Pf {r:List Int×List (List (Int×Int))} (h:RF r H=some (g,H')):r.1≠[]∧r.2≠[]∧(∀a∈r.2,a≠[])∧
  g = .agg [.sl H.n 0 r.1.length 1,.sl (uM 2 gP r.2 (H.new (.cells (r.1.flatMap gI)))).2.n 0 r.2.length 1]∧H'=(uM 2 gP r.2 (H.new (.cells (r.1.flatMap gI)))).2.new (.cells (uM 2 gP r.2 (H.new (.cells (r.1.flatMap gI)))).1):=by
 unfold RF at h;rw[WZ,Xa]at h;obtain⟨b,h⟩:=kP.1 h;obtain⟨c,h⟩:=kP.1 h;obtain⟨d,h⟩:=kP.1 h;rw[SQ,iX,SQ,vT,vT,iX]at h;cases h;refine⟨λe=>(by rw[e]at b;cases b),λe=>(by rw[e]at c;cases c),λa f e=>?_,rfl,rfl⟩
 have:=List.any_eq_false.1 d a f;rw[e]at this;exact this Z
theorem afX (ρ:dN) (x:Int):oQ ρ (gI x) [.int .i64 x]:= .cons (.int _ _) .nil
theorem afY (ρ:dN) (x:Int×Int):oQ ρ (gP x) [.int .i64 x.1,.int .i64 x.2]:= .cons (.int _ _) (.cons (.int _ _) .nil)
def glb (b:Nat) (a:List Value) (T:Nat):yX:=⟨[(b,.cells a.toArray T (0,0))],[]⟩
theorem Xh {b:Nat} {a:List Value} (w:World) (S:Nat->Prop) (h:∀h∈[Gb b a],h.p w S):∃T,HP (glb b a T) w λ_=>False:=by
 obtain⟨_,T,c⟩:=h _ (List.mem_singleton.2 Z);exact⟨T,λp d=>by obtain rfl:=List.mem_singleton.1 d;exact⟨c,id⟩⟩
theorem fI.glb {b:Nat} {a:List Value} {T:Nat} {c:eK (glb b a T)} {w:World} {ρ:dN} {H:GH} (R:fI c ρ H w):(Gb b a).p w All:=⟨trivial,T,(R.glo _ (List.mem_singleton.2 Z)).1⟩
theorem Nf {gs:Nat->yX} {f:Nat} {V:Value} {L:List aZ} (q:∀w S,(∀h∈L,h.p w S)->∃T,HP (gs T) w λ_=>False) (r:aW P f) (y:∀ρ d,Rl ρ g d->d=V) (h:∀T (b:eK (gs T)),kE P b (λ_=>none) f [] b.w g H'):aX P f #[] L (λ_:Unit=>V) (λ_ l=>l) (λ_ l=>l):=by
 intro w0 o z;obtain⟨T,n⟩:=q w0 o z;rcases h T (.of w0 n)with⟨v,A,c,a,_⟩|⟨_,s⟩
 ·have x:=r #[] w0;rw[show([]:List Value).toArray = #[]from rfl]at a;rw[show(eK.of w0 n).w=w0 from rfl,x]at a;cases a
 refine s.mono ?_;rintro e A ⟨v,c,rfl,_,R,a⟩;exact⟨(),by rw[y _ _ a],R.ext,λ_ _=>False,⟨λi m u=>by simp at u,λi k h=>h.elim,λi j k h=>h.elim⟩,λf t=>by simp at t⟩
section
variable {tb:TB} {T:TypeId}
theorem Ss (h:BL tb T=some [xM]) (H:GH):nG tb T H=some (.ptr H.n 0,H.new (.cells [xM])):=by
 unfold nG;rw[h];show H.newK (.cells [xM]) (λh H'=>some (GV.ptr h 0,H'))=_;rw[iX]
theorem TE {t:Ty} (h:tb T=some t) (e:t.size=1) (H:GH) (k:Nat) (c:GV) (d:GH.cells H k=some [c]):mD tb T (.ptr k 0) xM H=some (.un,H.set k (.cells [xM])):=by
 show ob (H.cells k) (λb=>ob (tb T) λt=>bif Nat.beq 1 t.size then bif Nat.beq t.size 0 then none else ob (Gf [xM] 0 b) λa=>H.setK k (.cells a) λH'=>some (GV.un,H')else none)=_;rw[d,h];show(bif Nat.beq 1 t.size then bif Nat.beq t.size 0 then none else ob (Gf [xM] 0 [c]) λa=>H.setK k (.cells a) λH'=>some (GV.un,H')else none)=_;rw[e];show H.setK k (.cells [xM]) (λH'=>some (GV.un,H'))=_;rw[xT]
theorem XH {t:Ty} (h:tb T=some t) (b:xZ t.desc=false) (H:GH) (k:Nat) (c:GH.cells H k=some [xM]):uD tb T (.ptr k 0) H=some xM:=by
 show ob (H.cells k) (λa=>ob (tb T) λt=>Bt t a 0)=_;rw[c,h];show Bt t [xM] 0=_;unfold Bt;rw[b];rfl
end
def MF (a:Func):List Oper:=match a.body with
 |some (.seq (.region _ ops _) _)=>ops.toList
 |_=>[]
def Wv (a:Func):Code:=match a.body with
 |some (.seq _ c)=>c
 |_=> .skip
def aaj (a:Func):Nat:=match MF a with
 |o::_=>o.dst.getD 0
 | []=>0
def okN (r:RS):Bool:=match r with
 |some o=>match o.e with
  | .normal=>true
  |_=>false
 |none=>false
theorem XV {r:RS} (h:okN r=true):∃a,r=some a∧a.e = .normal:=by
 unfold okN at h;cases r with
 |none=>cases h
 |some o=>
  refine⟨o,rfl,?_⟩
  cases b:o.e<;>simp only[b]at h<;>first|rfl|cases h
def okT (r:OR):Bool:=match r with
 |some (.bool true,_)=>true
 |_=>false
theorem XW {r:OR} (h:okT r=true):∃H',r=some (.bool true,H'):=by
 unfold okT at h;split at h
 ·exact⟨_,rfl⟩
 ·cases h
end
end Go.Gx
namespace Go.Proofs.YtmdlcmbplnhdnaaGreatDoor
open Go.Sx
def nO  (a:Unit):Option (Bool):=
 some (true)
def iQ (d:aR) (a:Int×List (Bool)) (c:(Int×List (Bool))->Option (Bool)) (b:Bool):Option (Bool):=
 if b=true then(some (false))else(ck ((0<=(at' d a.1)∧(at' d a.1)<((256:Nat):Int))∧List.length a.2=256) (c ((wI .i64 (a.1+(1:Int))),(List.set a.2 (Int.toNat (at' d a.1)) true))))
def fX (b:aR) (a:Int×List (Bool)) (c:(Int×List (Bool))->Option (Bool)):Option (Bool):=
 if a.1<(List.length b:Int)then(ck (0<=a.1∧a.1<(List.length b:Int)) (if(at' b a.1)<(0:Int)then(iQ b a c (true))else(if(255:Int)<(at' b a.1)then(iQ b a c (true))else(ck ((0<=(at' b a.1)∧(at' b a.1)<((256:Nat):Int))∧List.length a.2=256) (iQ b a c ((at' a.2 (at' b a.1))))))))else(nO  (()))
def jL (U:Nat) (a:aR):Option (Bool):=
 bJ (fX a) U ((0:Int),(List.replicate 256 false))
theorem ZL:aW Tryz.prog 116:=Tryz.call116
theorem DX (U:Nat) {d:aR} (n:Value) (r:Bool) (h:jL U d=some r):
  aX Tryz.prog 116 #[n] [Sl bN n d] (λx:Unit=>vB (r)) (λx l=>l) (λ_ l=>l):=by
 refine aX.of Tryz.func116 Z Tryz.ntmps116 Z λc=>?_;unfold jL at h;refine aV<|aD Z<|aL<|aV ?_;refine aH (aM.alloc (cs:=cellsOf EBo (List.replicate 256 false)) Z (by kernel_rfl)) Z λm=>?_;refine aL<|aJ<|dR (λk=>nO  k=some r) (λk o=>[]) (λk o=>[]) ?_ ?_
 ·refine aV<|aA Z<|kB (aE.fact 0 Z) Z<|aA Z<|aL<|aS<|dU (fX d) (λa p=>[(3,vP m),(6,n),(7,vI (List.length d:Int)),(8,vI (a.1))]) (λa p=>[bU m (cellsOf EBo a.2) 204]) ((0:Int),(List.replicate 256 false)) () h SF (a_.refl _) ?_;intro q a p h;refine aV<|cM Z<|aL<|aJ ?_;refine eX h Z (λh=>?_) λh=>?_
  ·refine cK<|aJ<|aS<|aV<|cX h λg h=>aB (aY Z Z (aE.fact 0 Z) Z Z g) Z<|aB (bV Z (aE.fact 0 Z) Z Z Z dA g) Z<|aD Z<|aL<|aJ<|aJ<|dR (λb=>iQ d a (bJ (fX d) q) b=some r) (λb f=>[(3,vP m),(5,vI (at' d a.1)),(6,n),(7,vI (List.length d:Int)),(8,vI (a.1)),(22,vB (b))]) (λb f=>[bU m (cellsOf EBo a.2) 204]) ?_ ?_
   ·refine aO<|aA Z<|cM Z<|aA Z ?_;refine Dg h Z (λ_ h=>?_) λ_ h=>?_
    ·refine aG Z<|aG Z<|dV Z<|aA Z<|aG Z<|aG Z<|aG Z<|dV Z<|aL ?_;exact gY (true) () h SF Z
    refine cO Z<|aN Z (zA Z Z) Z<|fK Z<|aA Z ?_;refine Dg h Z (λ_ h=>?_) λ_ h=>?_
    ·refine aG Z<|aG Z<|aG Z<|dV Z<|aL ?_;exact gY (true) () h SF Z
    refine cO Z<|cX h λj h=>aN Z (oL Z Z Z Z Z j.1) Z<|aN Z (Ue (e:=EBo) Z (aE.res 0 Z) Z Z Z Z j) Z<|fK Z<|aL ?_;exact gY ((at' a.2 (at' d a.1))) () h SF Z
   intro b f h;refine Ai h Z (λ_ h=>?_) λ_ h=>?_
   ·refine aV<|aD Z<|aL<|aU<|aI<|bK<|aI<|aI<|bK<|aI ?_;cases h;exact tO Z
   refine cK<|aO<|aA Z<|cX h λi h=>aB (oL Z Z Z Z Z i.1) Z<|Jf 0 (e:=EBo) true i Z Z Z Z Z Z Z<|eJ<|mI<|aO<|cJ Z<|aA Z<|aL ?_;exact xY ((wI .i64 (a.1+(1:Int))),(List.set a.2 (Int.toNat (at' d a.1)) true)) () h SF Z
  refine fC ?_;exact cH () (()) h SF .nil (aF.refl _ _)
 intro k o h;unfold nO at h;refine aV<|aD Z<|aL<|aU ?_;cases h;exact kH Z
def vD (c:(List ((Int×Int)×Int))) (a:(Int×Int)×Int) (b:Option (Bool)):Option (Bool):=
 if(Option.getD (mJ (a.1.2,a.1.1) c) (0:Int))≠a.2 then(some (false))else(b)
def jB  (a:(List ((Int×Int)×Int))):Option (Bool):=
 KS (vD a) (some (true)) a
def mT (b:Ih) (a:LW->Option (Bool)) (c:(List ((Int×Int)×Int))):Option (Bool):=
 a ((wI .i64 (b.1+(1:Int))),c)
def jC (e:gN) (b:Ih) (a:Ih) (c:LW->Option (Bool)) (d:Bool):Option (Bool):=
 if d=true then(some (false))else(if(Option.isSome (mJ (b.1,((at' (at' e b.1) a.1).1)) a.2))=true then(some (false))else(c ((wI .i64 (a.1+(1:Int))),(Cv (b.1,((at' (at' e b.1) a.1).1)) ((at' (at' e b.1) a.1).2) a.2))))
def gU (d:gN) (a:Ih) (b:Ih) (c:LW->Option (Bool)) (e:Bool):Option (Bool):=
 if e=true then(some (false))else(if((at' (at' d a.1) b.1).2)<(1:Int)then(jC d a b c (true))else(jC d a b c (decide ((15:Int)<((at' (at' d a.1) b.1).2)))))
def cI (d:gN) (a:Ih) (e:LW->Option (Bool)) (b:Ih) (c:LW->Option (Bool)):Option (Bool):=
 if b.1<(List.length (at' d a.1):Int)then(ck (0<=b.1∧b.1<(List.length (at' d a.1):Int)) (if((at' (at' d a.1) b.1).1)<(0:Int)then(gU d a b c (true))else(if(List.length d:Int)<=((at' (at' d a.1) b.1).1)then(gU d a b c (true))else(gU d a b c (decide (((at' (at' d a.1) b.1).1)=a.1))))))else(mT a e (b.2))
def cU (U:Nat) (c:gN) (a:Ih) (b:LW->Option (Bool)):Option (Bool):=
 if a.1<(List.length c:Int)then(ck (0<=a.1∧a.1<(List.length c:Int)) (bJ (cI c a b) U ((0:Int),a.2)))else(jB  (a.2))
def gF (U:Nat) (a:gN):Option (Bool):=
 bJ (cU U a) U ((0:Int),([]:List ((Int×Int)×Int)))
theorem ZM:aW Tryz.prog 117:=Tryz.call117
theorem GG (U:Nat) {f:gN} (n:Value)  (F:lX) (r:Bool) (h:gF U f=some r):
  aX Tryz.prog 117 #[n] [S2 bD n F f] (λx:Unit=>vB (r)) (λx l=>l) (λ_ l=>l):=by
 refine aX.of Tryz.func117 Z Tryz.ntmps117 Z λc=>?_;unfold gF at h;refine aV<|aD Z<|aL<|aV<|aH (aM.makeMap nH Qb) Z λk=>aD Z<|aL<|aJ<|dR (λq=>jB  q=some r) (λq H=>[(3,Value.map (some k))]) (λq H=>[Mp nH Qb k q]) ?_ ?_
 ·refine aV<|aA Z<|aB (iY Z (aE.fact 0 Z) Z) Z<|aA Z<|aL<|aS<|dU (cU U f) (λd y=>[(0,n),(3,Value.map (some k)),(14,n),(15,vI (List.length f:Int)),(16,vI (d.1))]) (λd y=>[Mp nH Qb k d.2]) ((0:Int),([]:List ((Int×Int)×Int))) () h SF (a_.refl _) ?_;intro t d y h;refine aV<|cM Z<|aL<|aJ ?_;refine eX h Z (λh=>?_) λh=>?_
  ·refine cK<|aJ<|dR (λm=>mT d (bJ (cU U f) t) m=some r) (λm z=>[(0,n),(3,Value.map (some k)),(14,n),(15,vI (List.length f:Int)),(16,vI (d.1))]) (λm z=>[Mp nH Qb k m]) ?_ ?_
   ·refine aS<|aV<|aA Z<|cX h λj h=>aB (cA Z Z (aE.fact 0 Z) Z Z j) Z<|aB (cF Z (aE.fact 0 Z) Z Z j) Z<|aD Z<|aD Z<|aL<|aV<|aA Z<|aB (fW Z (aE.el (aE.fact 0 Z) j.1 j.2) Z) Z<|aA Z<|aL<|aS<|dU (cI f d (bJ (cU U f) t)) (λe A=>[(0,n),(3,Value.map (some k)),(4,vI (d.1)),(14,n),(15,vI (List.length f:Int)),(16,vI (d.1)),(21,(at' F d.1).1),(22,vI (List.length (at' f d.1):Int)),(23,vI (e.1))]) (λe A=>[Mp nH Qb k e.2]) ((0:Int),d.2) () h SF (a_.refl _) ?_;intro E e A h;refine aV<|cM Z<|aL<|aJ ?_;refine eX h Z (λh=>?_) λh=>?_
    ·refine cK<|aJ<|aS<|aV<|cX h λD h=>aB (aY Z Z (aE.el (aE.fact 0 Z) j.1 j.2) Z Z D) Z<|aB (iZ (cs:=[vI ((at' (at' f d.1) e.1).1),vI ((at' (at' f d.1) e.1).2)]) Z (aE.el (aE.fact 0 Z) j.1 j.2) bQ Z Z Z Z D) Z<|aH (aM.alloc (cs:=Vd) Z Z) Z λs=>bT 0 (vs:=[vI ((at' (at' f d.1) e.1).1),vI ((at' (at' f d.1) e.1).2)]) Z Z Z Z Z Z<|aL<|aJ<|aJ<|dR (λo=>gU f d e (bJ (cI f d (bJ (cU U f) t)) E) o=some r) (λo B=>[(0,n),(3,Value.map (some k)),(4,vI (d.1)),(7,vP s),(14,n),(15,vI (List.length f:Int)),(16,vI (d.1)),(21,(at' F d.1).1),(22,vI (List.length (at' f d.1):Int)),(23,vI (e.1)),(42,vB (o))]) (λo B=>[bU s [vI ((at' (at' f d.1) e.1).1),vI ((at' (at' f d.1) e.1).2)] 92,Mp nH Qb k e.2]) ?_ ?_
     ·refine aO<|bS Z<|dC 0 Z<|cM Z<|aA Z ?_;refine Dg h Z (λ_ h=>?_) λ_ h=>?_
      ·refine aG Z<|aG Z<|aG Z<|aG Z<|aG Z<|dV Z<|aA Z<|aG Z<|aG Z<|aG Z<|aG Z<|dV Z<|aL ?_;exact gY (true) () h SF Z
      refine aN Z (dO Z Z Z Z Z) Z<|aN Z (eW 0 Z Z Z Z Z) Z<|cO Z<|aN Z (iY Z (aE.fact 0 Z) Z) Z<|aN Z (Do Z Z) Z<|fK Z<|aA Z ?_;refine Dg h Z (λ_ h=>?_) λ_ h=>?_
      ·refine aG Z<|aG Z<|aG Z<|aG Z<|dV Z<|aL ?_;exact gY (true) () h SF Z
      refine aN Z (dO Z Z Z Z Z) Z<|aN Z (eW 0 Z Z Z Z Z) Z<|cO Z<|aN Z (On Z Z) Z<|fK Z<|aL ?_;exact gY (decide (((at' (at' f d.1) e.1).1)=d.1)) () h SF Z
     intro o B h;refine Ai h Z (λ_ h=>?_) λ_ h=>?_
     ·refine aV<|aD Z<|aL<|aU<|aI<|bK<|aI<|aI<|bK<|bK<|aI<|aI<|bK<|aI ?_;cases h;exact tO Z
     refine cK<|aJ<|aJ<|dR (λp=>jC f d e (bJ (cI f d (bJ (cU U f) t)) E) p=some r) (λp C=>[(0,n),(3,Value.map (some k)),(4,vI (d.1)),(7,vP s),(14,n),(15,vI (List.length f:Int)),(16,vI (d.1)),(21,(at' F d.1).1),(22,vI (List.length (at' f d.1):Int)),(23,vI (e.1)),(50,vB (p))]) (λp C=>[bU s [vI ((at' (at' f d.1) e.1).1),vI ((at' (at' f d.1) e.1).2)] 92,Mp nH Qb k e.2]) ?_ ?_
     ·refine aO<|bS Z<|dC 0 Z<|cM Z<|aA Z ?_;refine Dg h Z (λ_ h=>?_) λ_ h=>?_
      ·refine aG Z<|aG Z<|aG Z<|dV Z<|aL ?_;exact gY (true) () h SF Z
      refine aN Z (dO Z Z Z Z Z) Z<|aN Z (eW 0 Z Z Z Z Z) Z<|aN Z (zA Z Z) Z<|fK Z<|aL ?_;exact gY (decide ((15:Int)<((at' (at' f d.1) e.1).2))) () h SF Z
     intro p C h;refine Ai h Z (λ_ h=>?_) λ_ h=>?_
     ·refine aV<|aD Z<|aL<|aU<|aI<|bK<|aI<|aI<|bK<|bK<|aI<|aI<|bK<|aI ?_;cases h;exact tO Z
     refine cK<|aV<|aA Z<|bS Z<|dC 0 Z ?_;refine aB (Ce (r:=Value.agg #[vI (d.1),vI ((at' (at' f d.1) e.1).1)]) Z Z (by intro w;simp[Instr.build,Instr.fill,fD,eD,dJ,fE,fF,eF,gK])) Z ?_;refine aH (aM.alloc (cs:=Vd) Z Z) Z λK=>bT 0 (vs:=[vI (d.1),vI ((at' (at' f d.1) e.1).1)]) Z Z Z Z Z Z<|aL<|aJ<|aV<|aA Z<|eT 0 Z ?_;refine aB (Ot 2 ((d.1,((at' (at' f d.1) e.1).1))) (u:=vI (Option.getD (mJ (d.1,((at' (at' f d.1) e.1).1)) e.2) (0:Int))) M_ Z Z Z Z Z (by cases mJ ((d.1,((at' (at' f d.1) e.1).1))) e.2<;>rfl)) Z ?_;refine aA Z<|iW Z<|iW Z<|aD Z<|aD Z<|aL<|aV<|aA Z<|aL ?_;refine Ai h Z (λ_ h=>?_) λ_ h=>?_
     ·refine aV<|aD Z<|aL<|aU<|aI<|bK<|aI<|aI<|bK<|bK<|aI<|aI<|bK<|aI ?_;cases h;exact tO Z
     refine cK<|aO<|aA Z<|eT 0 Z<|bS Z<|dC 1 Z<|NO 2 ((d.1,((at' (at' f d.1) e.1).1))) ((at' (at' f d.1) e.1).2) M_ Z Z Z Z Z<|eJ<|mI<|aO<|cJ Z<|aA Z<|aL ?_;exact mL ((wI .i64 (e.1+(1:Int))),(Cv (d.1,((at' (at' f d.1) e.1).1)) ((at' (at' f d.1) e.1).2) e.2)) () h SF (a_.ix [2] Z Z) (aF.refl _ _)
    refine rA<|eM<|eM<|xN<|mI ?_;exact gY (e.2) () h SF Z
   intro m z h;unfold mT at h;refine aO<|cJ Z<|aA Z<|aL ?_;exact xY ((wI .i64 (d.1+(1:Int))),m) () h SF Z
  refine fC ?_;exact gY (d.2) () h SF Z
 intro q H h;unfold jB at h;refine aJ<|aV<|aA Z<|aH (aM.range 0 Z Z Z) Z λI=>aL<|aS<|Zn [(3,Value.map (some k)),(69,vP I)] [It I k (List.length q) ([]),Mp nH Qb k q] [S2 bD n F f] SF (a_.refl _) (aF.refl _ _) ?_;refine TU (vD q) 1 0 (by intro a b x;unfold vD;repeat' split;all_goals first|rfl|contradiction|simp_all) h Z Z Z Z Z Z ?_ ?_
 ·skip
  intro g N G M v h;refine aS<|aV<|aH (aM.entry 1 0 v Z Z Z) Z λL=>iW Z<|iW Z<|aH (aM.alloc (cs:=Vd) Z Z) Z λJ=>bT 0 (vs:=[vI (g.1.1),vI (g.1.2)]) Z Z Z Z Z Z<|aD Z<|aL<|aV<|aA Z ?_;refine aB (oL (i:=1) Z Z Z Z Z (by decide)) Z ?_;refine dC 0 Z ?_;refine aB (oL (i:=0) Z Z Z Z Z (by decide)) Z ?_;refine dC 0 Z ?_;refine aB (Ce (r:=Value.agg #[vI (g.1.2),vI (g.1.1)]) Z Z (by intro w;simp[Instr.build,Instr.fill,fD,eD,dJ,fE,fF,eF,gK])) Z ?_;refine aB (Ot 2 ((g.1.2,g.1.1)) (u:=vI (Option.getD (mJ (g.1.2,g.1.1) q) (0:Int))) M_ Z Z Z Z Z (by cases mJ ((g.1.2,g.1.1)) q<;>rfl)) Z ?_;refine aA Z<|p_ Z<|aL ?_;refine eX h Z (λh=>?_) λh=>?_
  ·refine aV<|aD Z<|aL<|aU<|bK<|aI<|bK<|aI ?_;cases h;exact tO Z
  refine dL<|mI ?_;exact Qz h SF (a_.ix [1,2] Z Z) (aF.refl _ _)
 intro G h;refine xN<|Bg<|aV<|aD Z<|aL<|aU ?_;cases h;exact tO Z
def pN  (a:Bool):Option (Bool):=
 some (a)
def pM (U:Nat) (b:cQ) (c:Bool):Option (Bool):=
 if c=true then(some (false))else(Option.bind (jL U b.1) λd=>(if d=true then(Option.bind (gF U b.2) λa=>(pN  (a)))else(pN  (false))))
def g_ (U:Nat) (a:cQ):Option (Bool):=
 if(List.length a.1:Int)<(1:Int)then(pM U a (true))else(if(24:Int)<(List.length a.1:Int)then(pM U a (true))else(pM U a (decide ((List.length a.2:Int)≠(List.length a.1:Int)))))
theorem ME:aW Tryz.prog 86:=Tryz.call86
theorem yT (U:Nat) {p0:cQ} (f:Value)  (g:Value)  (o:lX) (r:Bool) (h:g_ U p0=some r):
  aX Tryz.prog 86 #[Value.agg #[f,g]] [Sl bN f p0.1,S2 bD g o p0.2] (λx:Unit=>vB (r)) (λx l=>l) (λ_ l=>l):=by
 refine aX.of Tryz.func86 Z Tryz.ntmps86 Z λc=>?_;refine aV<|aH (aM.box (cs:=[f,g]) Z Z) Z λk=>aD Z<|aL<|aV<|bS Z<|dC 0 Z<|kB (aE.fact 0 Z) Z<|aD Z<|aL<|aJ<|aJ<|dR (λb=>pM U p0 b=some r) (λb m=>[(1,vP k),(19,vB (b))]) (λb m=>[bU k [f,g] 29]) ?_ ?_
 ·refine aO<|aA Z<|cM Z<|aA Z ?_;refine Dg h Z (λ_ h=>?_) λ_ h=>?_
  ·refine aG Z<|aG Z<|dV Z<|aA Z<|aG Z<|aG Z<|aG Z<|aG Z<|aG Z<|dV Z<|aL ?_;exact gY (true) () h SF Z
  refine cO Z<|aN Z (zA Z Z) Z<|fK Z<|aA Z ?_;refine Dg h Z (λ_ h=>?_) λ_ h=>?_
  ·refine aG Z<|aG Z<|aG Z<|aG Z<|aG Z<|dV Z<|aL ?_;exact gY (true) () h SF Z
  refine aN Z (dO Z Z Z Z Z) Z<|aN Z (eW 0 Z Z Z Z Z) Z<|aN Z (iY Z (aE.fact 1 Z) Z) Z<|cO Z<|aN Z (Dq Z Z) Z<|fK Z<|aL ?_;exact gY (decide ((List.length p0.2:Int)≠(List.length p0.1:Int))) () h SF Z
 intro b m h;refine Ai h Z (λ_ h=>?_) λ_ h=>?_
 ·refine aV<|aD Z<|aL<|aU<|aI ?_;cases h;exact tO Z
 refine cK<|aJ<|dR (λd=>pN  d=some r) (λd n=>[(2,vB (d))]) (λd n=>[]) ?_ ?_
 ·refine aO<|bS Z<|dC 0 Z<|fH h λp i h=>aH (aM.callQ ZL (DX U f p i) Z (pO [0] Z)) Z λq=>aA Z ?_;refine wA (by exact rfl) (by exact rfl) (λa=>?_) (λa=>?_)
  ·have h:=Lz a h;refine aN Z (dO Z Z Z Z Z) Z<|aN Z (eW 0 Z Z Z Z Z) Z<|fH h λe j h=>qB Z (aM.callQ ZM (GG U g o e j) Z (pO [1] Z)) Z λs=>dV Z<|aD Z<|aL ?_;exact cH (e) () h SF .nil (aF.refl _ _)
  have h:=Hn a h;refine aG Z<|aG Z<|aG Z<|fK Z<|aD Z<|aL ?_;exact cH (false) () h SF .nil (aF.refl _ _)
 intro d n h;unfold pN at h;refine aU ?_;cases h;exact kH Z
def qW  (a:Int):Option (Int):=
 some (a)
def gX (U:Nat) (b:Int) (a:Int):Option (Int):=
 if a<(1:Int)then(some (0:Int))else(ck (a≠0) (if(Int.tmod b a)<(0:Int)then(qW  (wI .i64 ((Int.tmod b a)+a)))else(qW  (Int.tmod b a))))
theorem Dt:aW Tryz.prog 19:=Tryz.call19
theorem lO (U:Nat) {d:Int} {b:Int} (r:Int) (h:gX U d b=some r):
  aX Tryz.prog 19 #[vI (d),vI (b)] [] (λx:Unit=>vI (r)) (λx l=>l) (λ_ l=>l):=by
 refine aX.of Tryz.func19 Z Tryz.ntmps19 Z λc=>?_;refine aV<|aD Z<|aL<|aJ<|aV<|aA Z<|cM Z<|aL ?_;refine eX h Z (λh=>?_) λh=>?_
 ·refine aV<|aD Z<|aL<|aU<|aI ?_;cases h;exact kH Z
 refine cK<|aV<|aA Z<|aA Z<|cX h λf h=>aB (Jr Z Z f) Z<|aD Z<|aL<|aJ<|dR (λa=>qW  a=some r) (λa e=>[(0,vI (a))]) (λa e=>[]) ?_ ?_
 ·refine aV<|aA Z<|cM Z<|aL ?_;refine eX h Z (λh=>?_) λh=>?_
  ·refine aO<|aA Z<|aA Z<|cJ Z<|aD Z<|aL ?_;exact gY (wI .i64 ((Int.tmod d b)+b)) () h SF Z
  refine cK ?_;exact gY (Int.tmod d b) () h SF Z
 intro a e h;unfold qW at h;refine aV<|aA Z<|aD Z<|aL<|aU ?_;cases h;exact kH Z
def sD (U:Nat) (b:aR) (a:Int):Option (Int):=
 if a<(List.length b:Int)then(ck (0<=a∧a<(List.length b:Int)) (some (at' b a)))else(some (0:Int))
theorem Jx:aW Tryz.prog 30:=Tryz.call30
theorem AZ (U:Nat) {b:aR} {d:Int} (e:Value) (r:Int) (h:sD U b d=some r):
  aX Tryz.prog 30 #[e,vI (d)] [Sl bN e b] (λx:Unit=>vI (r)) (λx l=>l) (λ_ l=>l):=by
 refine aX.of Tryz.func30 Z Tryz.ntmps30 Z λc=>?_;refine aV<|aD Z<|aL<|aJ<|aV<|aA Z<|aA Z<|kB (aE.fact 0 Z) Z<|cM Z<|aL ?_;refine eX h Z (λh=>?_) λh=>?_
 ·refine aV<|aA Z<|aA Z<|cX h λa h=>aB (aY Z Z (aE.fact 0 Z) Z Z a) Z<|aB (bV Z (aE.fact 0 Z) Z Z Z dA a) Z<|aD Z<|aL<|aU<|aI ?_;cases h;exact kH Z
 refine cK<|aV<|aD Z<|aL<|aU ?_;cases h;exact kH Z
def uY  (a:Unit):Option (Bool):=
 some (false)
def zY (c:cQ) (a:Int) (e:Int) (b:Int) (d:(Int)->Option (Bool)):Option (Bool):=
 ck (0<=a∧a<(List.length c.2:Int)) (if b<(List.length (at' c.2 a):Int)then(ck (0<=a∧a<(List.length c.2:Int)) (ck (0<=b∧b<(List.length (at' c.2 a):Int)) (if((at' (at' c.2 a) b).1)=e then(some (true))else(d (wI .i64 (b+(1:Int)))))))else(uY  (())))
def nC (U:Nat) (a:cQ) (b:Int) (c:Int):Option (Bool):=
 bJ (zY a b c) U (0:Int)
theorem acU:aW Tryz.prog 75:=Tryz.call75
theorem KE (U:Nat) {g:cQ} {i:Int} {j:Int} (k:Value)  (m:Value)  (q:lX) (r:Bool) (h:nC U g i j=some r):
  aX Tryz.prog 75 #[Value.agg #[k,m],vI (i),vI (j)] [Sl bN k g.1,S2 bD m q g.2] (λx:Unit=>vB (r)) (λx l=>l) (λ_ l=>l):=by
 refine aX.of Tryz.func75 Z Tryz.ntmps75 Z λc=>?_;unfold nC at h;refine aV<|aH (aM.box (cs:=[k,m]) Z Z) Z λn=>aD Z<|aL<|aJ<|dR (λd=>uY  d=some r) (λd o=>[]) (λd o=>[]) ?_ ?_
 ·refine aV<|aD Z<|aL<|aS<|dU (zY g i j) (λe p=>[(1,vI (i)),(2,vI (j)),(3,vP n),(7,vI (e))]) (λe p=>[bU n [k,m] 29]) (0:Int) () h SF (a_.refl _) ?_;intro s e p h;refine aJ<|aV<|aA Z<|bS Z<|dC 0 Z<|aA Z<|cX h λf h=>aB (cA Z Z (aE.fact 1 Z) Z Z f) Z<|aB (cF Z (aE.fact 1 Z) Z Z f) Z<|aB (fW Z (aE.el (aE.fact 1 Z) f.1 f.2) Z) Z<|cM Z<|aL ?_;refine eX h Z (λh=>?_) λh=>?_
  ·refine cK<|aJ<|aS<|aV<|bS Z<|dC 0 Z<|aA Z<|cX h λa h=>aB (cA Z Z (aE.fact 1 Z) Z Z a) Z<|aB (cF Z (aE.fact 1 Z) Z Z a) Z<|aA Z<|cX h λb h=>aB (aY Z Z (aE.el (aE.fact 1 Z) a.1 a.2) Z Z b) Z<|aB (fQ Z Z Z Z Z) Z<|aB (jN Z (aE.el (aE.fact 1 Z) a.1 a.2) Z Z Z oK b) Z<|aA Z<|cP Z<|aL ?_;refine eX h Z (λh=>?_) λh=>?_
   ·refine aV<|aD Z<|aL<|aU<|bK<|aI<|aI<|bK<|aI ?_;cases h;exact tO Z
   refine dL<|mI<|aO<|aA Z<|cJ Z<|aD Z<|aL ?_;exact xY (wI .i64 (e+(1:Int))) () h SF Z
  refine fC ?_;exact cH () (()) h SF .nil (aF.refl _ _)
 intro d o h;unfold uY at h;refine aV<|aD Z<|aL<|aU ?_;cases h;exact kH Z
def oU (f:Di) (c:cQ) (a:Int) (b:Int) (d:Int) (e:Bool):Option (gN):=
 if e=true then(some (c.2))else(if f.2.2.2.2.2=true then(ck (0<=a∧a<(List.length c.2:Int)) (ck ((List.length ([(b,d)]):Int)+(List.length (at' c.2 a):Int)<=1099511627) (ck (0<=a∧a<(List.length c.2:Int)) (ck (0<=b∧b<(List.length (List.set c.2 (Int.toNat a) (([(b,d)])++(at' c.2 a))):Int)) (ck ((List.length ([(a,d)]):Int)+(List.length (at' (List.set c.2 (Int.toNat a) (([(b,d)])++(at' c.2 a))) b):Int)<=1099511627) (ck (0<=b∧b<(List.length (List.set c.2 (Int.toNat a) (([(b,d)])++(at' c.2 a))):Int)) (some (List.set (List.set c.2 (Int.toNat a) (([(b,d)])++(at' c.2 a))) (Int.toNat b) (([(a,d)])++(at' (List.set c.2 (Int.toNat a) (([(b,d)])++(at' c.2 a))) b))))))))))else(ck (0<=a∧a<(List.length c.2:Int)) (ck (0<=b∧b<(List.length c.2:Int)) (ck ((List.length (at' c.2 a):Int)+(List.length ([(b,d)]):Int)<=1099511627) (ck ((List.length (at' c.2 b):Int)+(List.length ([(a,d)]):Int)<=1099511627) (ck (Int.toNat a≠Int.toNat b) (ck (0<=a∧a<(List.length (List.set (List.set c.2 (Int.toNat a) ((at' c.2 a)++([(b,d)]))) (Int.toNat b) ((at' c.2 b)++([(a,d)]))):Int)) (ck (0<=b∧b<(List.length (List.set (List.set c.2 (Int.toNat a) ((at' c.2 a)++([(b,d)]))) (Int.toNat b) ((at' c.2 b)++([(a,d)]))):Int)) (some (List.set (List.set c.2 (Int.toNat a) ((at' c.2 a)++([(b,d)]))) (Int.toNat b) ((at' c.2 b)++([(a,d)]))))))))))))
def mX (U:Nat) (e:Di) (a:cQ) (b:Int) (c:Int) (f:Int):Option (gN):=
 if b=c then(oU e a b c f (true))else(Option.bind (nC U ((a.1,a.2)) b c) λd=>(oU e a b c f (d)))
theorem Wn:aW Tryz.prog 46:=Tryz.call46
theorem AV (U:Nat) {s:Di} {G:cQ} {f:Int} {g:Int} {d:Int} (J:Value)  (K:Value)  (L:Value)  (H:Value)  (C:Value)  (A:fV) (r:gN) (h:mX U s G f g d=some r):
  E_ Tryz.prog 46 #[Value.agg #[vI (s.1),J,K,L,vB (s.2.2.2.2.1),vB (s.2.2.2.2.2)],Value.agg #[H,C],vI (f),vI (g),vI (d)] [Ar cY.raw C A,kX b_ A G.2] [Sl bN J s.2.1,Sl bN K s.2.2.1,Sl bN L s.2.2.2.1,Sl bN H G.1] (λx:fV=>Value.tuple #[]) (λx l=>Ar cY.raw C x::kX b_ x r::l):=by
 refine E_.of (vs:=[Value.agg #[vI (s.1),J,K,L,vB (s.2.2.2.2.1),vB (s.2.2.2.2.2)],Value.agg #[H,C],vI (f),vI (g),vI (d)]) Tryz.func46 Z Tryz.ntmps46 Z λc=>?_;refine aV<|aH (aM.box (cs:=[vI (s.1),J,K,L,vB (s.2.2.2.2.1),vB (s.2.2.2.2.2)]) Z Z) Z λb1=>aH (aM.box (cs:=[H,C]) Z Z) Z λb2=>aL<|aJ<|aJ<|Ca (B:=Unit) (λI=>oU s G f g d I=some r) (λI b5=>[(2,vI (f)),(3,vI (g)),(4,vI (d)),(5,vP b1),(6,vP b2),(20,vB (I))]) (λI b5=>[bU b2 [H,C] 29,bU b1 [vI (s.1),J,K,L,vB (s.2.2.2.2.1),vB (s.2.2.2.2.2)] 24,Ar cY.raw C A,kX b_ A G.2]) (λI b5=>[Sl bN J s.2.1,Sl bN K s.2.2.1,Sl bN L s.2.2.2.1,Sl bN H G.1]) ?_ ?_
 ·refine aO<|aA Z<|aA Z<|cP Z<|aA Z ?_;refine Dg h Z (λ_ h=>?_) λ_ h=>?_
  ·refine aG Z<|aG Z<|aG Z<|aG Z<|dV Z<|aL ?_;exact gY (true) () h SF Z
  refine aN Z (i_ 0 Z Z Z Z) Z<|cO Z<|cO Z<|fH h λav au h=>qB Z (aM.callQ acU (KE U H C (List.zip A G.2) av au) Z (aF.cons (aE.fact 3 Z) (aF.cons (bO (i:=2) (j:=3) Z Z bQ) .nil))) Z λa8=>fK Z<|aL ?_;exact gY (av) () h SF Z
 intro I b5 h;refine Ai h Z (λ_ h=>?_) λ_ h=>?_
 ·refine aU<|aI ?_;cases h;exact FM (A) Z Z .ret (.inl Z) (a_.ix [2,3] Z Z) aF.nil
 refine cK<|aV<|aA Z<|aA Z ?_;refine aB (Ce (r:=Value.agg #[vI (g),vI (d)]) Z Z (by intro w;simp[Instr.build,Instr.fill,fD,eD,dJ,fE,fF,eF,gK])) Z ?_;refine aA Z<|aA Z ?_;refine aB (Ce (r:=Value.agg #[vI (f),vI (d)]) Z Z (by intro w;simp[Instr.build,Instr.fill,fD,eD,dJ,fE,fF,eF,gK])) Z ?_;refine aH (aM.alloc (cs:=Vd) Z Z) Z λb7=>aH (aM.alloc (cs:=Vd) Z Z) Z λb8=>bT 1 (vs:=[vI (g),vI (d)]) Z Z Z Z Z Z<|bT 0 (vs:=[vI (f),vI (d)]) Z Z Z Z Z Z<|aL<|aJ<|aV<|bS Z<|dC 3 Z<|aL ?_;refine Ai h Z (λ_ h=>?_) λ_ h=>?_
 ·refine aJ ?_;refine JR.start [0,1,0,0,8,0,32,0,224,480,1016,2047,4095] 11 mixedOrders (by decide +kernel) ?_;refine JR.open (by exact rfl) ?_;refine dB Z<|jQ 2 Z<|bH Z<|pY 1 Z<|JR.loud Z Z Z (bW (e:=b_) ([((g,d))]) [(0,Value.agg #[vI (g),vI (d)])] Z Z Z Z (zC (vI (g)) (vI (d))) Z Z Z) Z (λaT=>(v_ [([3],[])] Z)) λaT=>iF Z (dO Z Z Z Z Z)<|bL Z (a_.cons 3 Z .nil) .nil (eW 0 Z Z Z Z Z) (aP.h (a_.ix [2] Z Z) .nil aP.z)<|iF Z (gQ Z)<|cX h λu h=>eN (c_ 6 Z) λM=>?_;refine bL Z (a_.cons 5 Z .nil) .nil (iU 0 Z Z Z Z Z u.1 (by have m:=u.2;have n:=M;(try simp only[List.length_set]at m);(try simp only[List.length_set]at n);(try simp only[List.length_set]);omega)) (aP.h (a_.ix [4] Z Z) .nil aP.z) ?_;refine eN (c_ 6 Z) λN=>bL Z (a_.cons 5 Z .nil) .nil (jD 0 Z Z N Z Z u) (aP.h (a_.ix [4] Z Z) .nil aP.z)<|cX h λaR h=>JR.loud Z Z Z (eO 0 bQ Z Z Z (aE.row (j:=6) Z bQ u.1 u.2) Z Z Z Z aR Z) Z (λaw=>(v_ [([3],[])] Z)) λaw=>bP 11 Z Z<|cX h λv h=>aB (cA Z Z (bO (i:=5) (j:=6) Z Z bQ) Z Z v) Z<|bZ (Know.one ((bB (aE.res 0 Z) bQ))) λak=>iS (xV (k:=f) 6 0 Z Z Z v) ?_;refine qC 4 5 ⟨v.1,by first|exact v.2|simpa using v.2⟩ Z Z Z Z Z (by simp) ak Z ?_;refine aL<|aJ ?_;refine JR.start [0,1,0,0,8,0,32,0,224,480,1016,2047,4095] 11 mixedOrders (by decide +kernel) ?_;refine JR.open (by exact rfl) ?_;refine dB Z<|jQ 2 Z<|bH Z<|pY 0 Z<|JR.loud Z Z Z (bW (e:=b_) ([((f,d))]) [(0,Value.agg #[vI (f),vI (d)])] Z Z Z Z (zC (vI (f)) (vI (d))) Z Z Z) Z (λaW=>(v_ [([3],[])] Z)) λaW=>iF Z (dO Z Z Z Z Z)<|bL Z (a_.cons 3 Z .nil) .nil (eW 0 Z Z Z Z Z) (aP.h (a_.ix [2] Z Z) .nil aP.z)<|iF Z (gQ Z)<|cX h λt h=>eN (c_ 6 Z) λO=>?_;refine bL Z (a_.cons 5 Z .nil) .nil (iU 0 Z Z Z Z Z t.1 (by have m:=t.2;have n:=O;(try simp only[List.length_set]at m);(try simp only[List.length_set]at n);(try simp only[List.length_set]);omega)) (aP.h (a_.ix [4] Z Z) .nil aP.z) ?_;refine eN (c_ 6 Z) λP=>bL Z (a_.cons 5 Z .nil) .nil (jD 0 Z Z P Z Z t) (aP.h (a_.ix [4] Z Z) .nil aP.z)<|cX h λaS h=>JR.loud Z Z Z (eO 0 bQ Z Z Z (aE.row (j:=6) Z bQ t.1 (by first|exact t.2|simpa using t.2)) Z Z Z Z aS Z) Z (λax=>(v_ [([3],[])] Z)) λax=>?_;refine bP 11 Z Z<|cX h λy h=>aB (cA Z Z (bO (i:=5) (j:=6) Z Z bQ) Z Z y) Z<|bZ (Know.one ((bB (aE.res 0 Z) bQ))) λal=>iS (xV (k:=g) 6 0 Z Z Z y) ?_;refine qC 4 5 ⟨y.1,by first|exact y.2|simpa using y.2⟩ Z Z Z Z Z (by simp) al Z ?_;refine aL<|aU<|aI ?_;cases h;exact FM (List.set (List.set A (Int.toNat f) aw) (Int.toNat g) ax) Z Z .ret (.inl Z) (a_.ix [4,5] Z Z) aF.nil
 refine cK<|cX h λp h=>cX h λq h=>cX h λD h=>cX h λE h=>cX h λF h=>cX h λa h=>cX h λb h=>TX [0,1,0,0,8,0,0,64,0,448,960,0,2048,8128,0,16384,0,114688,245760,0,524288,2097088,4194247,8388551,16777215,33554431] 24 [[0,1,2,3,4,5,6,7,8,9,10,11,14,15,16,17,18,19,12,13,20,21,22,23,24,25],[0,1,2,3,4,5,6,7,8,9,10,11,14,15,16,17,18,19,12,20,13,21,22,23,24,25],[0,1,2,3,4,5,6,7,8,9,10,11,14,15,16,17,18,19,20,12,13,21,22,23,24,25]] mixedOrders (by decide +kernel) (by decide +kernel) ?_;intro o ho;simp only[List.mem_cons,List.not_mem_nil,or_false]at ho;rcases ho with rfl|rfl|rfl
 ·refine dB Z<|jQ 2 Z<|bH Z<|dB Z<|jQ 2 Z<|bH Z<|dB Z<|jQ 2 Z<|bH Z<|eN (c_ 5 Z) λQ=>?_;refine bL Z (a_.cons 4 Z .nil) .nil (iU 0 Z Z Z Z Z p.1 (by have m:=p.2;have n:=Q;(try simp only[List.length_set]at m);(try simp only[List.length_set]at n);(try simp only[List.length_set]);omega)) aP.z ?_;refine eN (c_ 5 Z) λR=>bL Z (a_.cons 4 Z .nil) .nil (jD 0 Z Z R Z Z p) aP.z<|pY 1 Z<|dB Z<|jQ 2 Z<|bH Z<|eN (c_ 5 Z) λS=>?_;refine bL Z (a_.cons 4 Z .nil) .nil (iU 0 Z Z Z Z Z q.1 (by have m:=q.2;have n:=S;(try simp only[List.length_set]at m);(try simp only[List.length_set]at n);(try simp only[List.length_set]);omega)) aP.z ?_;refine eN (c_ 5 Z) λT=>bL Z (a_.cons 4 Z .nil) .nil (jD 0 Z Z T Z Z q) aP.z<|pY 0 Z<|JR.loud Z Z Z (bW (e:=b_) ([((g,d))]) [(0,Value.agg #[vI (g),vI (d)])] Z Z Z Z (zC (vI (g)) (vI (d))) Z Z Z) Z (λaX=>(v_ [([1],[]),([5],[]),([5],[]),([3],[]),([5],[]),([5],[]),([3],[]),([3],[]),([3],[])] Z)) λaX=>JR.loud Z Z Z (qO 6 bQ Z Z Z (bB (aE.res 0 Z) bQ) Z Z Z Z p D Z) Z (λay=>(v_ [([1],[]),([5],[]),([5],[]),([3],[]),([3],[]),([3],[])] Z)) λay=>JR.loud Z Z Z (bW (e:=b_) ([((f,d))]) [(0,Value.agg #[vI (f),vI (d)])] Z Z Z Z (zC (vI (f)) (vI (d))) Z Z Z) Z (λaY=>(v_ [([6],[]),([6],[]),([4],[]),([3],[]),([6],[]),([6],[]),([4],[]),([4],[]),([4],[])] Z)) λaY=>JR.loud Z Z Z (zJ (j:=f) 7 bQ Z Z Z (bB (aE.res 0 Z) bQ) Z Z Z Z q E Z F) Z (λaz=>(v_ [([4],[]),([4],[])] Z)) λaz=>eN (c_ 7 Z) λV=>?_;refine bL Z (a_.cons 6 Z .nil) .nil (iU 0 Z Z Z Z Z a.1 (by have m:=a.2;have n:=V;(try simp only[List.length_set]at m);(try simp only[List.length_set]at n);(try simp only[List.length_set]);omega)) (hkI Z) ?_;refine eN (Cb (k:=f) (j:=g) 7 Z (by omega) ⟨a.1,by first|exact a.2|simpa using a.2⟩) λam=>?_;refine Dj Z Z Z (Bz 6 7 ⟨a.1,by first|exact a.2|simpa using a.2⟩ Z Z Z Z (by simp) am Z) (λa5=>(v_ [([4],[])] Z)) λa5=>?_;refine bP 24 Z Z<|bZ (c_ 7 Z) λW=>?_;refine aB (iU 6 Z Z Z Z Z b.1 (by have m:=b.2;have n:=W;(try simp only[List.length_set]at m);(try simp only[List.length_set]at n);(try simp only[List.length_set]);omega)) Z ?_;refine bZ (Bh 7 (k:=g) Z ⟨b.1,by first|exact b.2|simpa using b.2⟩) λan=>?_;refine qC 6 7 ⟨b.1,by first|exact b.2|simpa using b.2⟩ Z Z Z Z Z (by simp) an Z ?_;refine eJ ?_;cases h;exact FM (List.set (List.set A (Int.toNat f) ay) (Int.toNat g) az) Z Z .normal (.inr Z) (a_.ix [6,7] Z Z) aF.nil
 ·refine dB Z<|jQ 2 Z<|bH Z<|dB Z<|jQ 2 Z<|bH Z<|dB Z<|jQ 2 Z<|bH Z<|eN (c_ 5 Z) λX=>?_;refine bL Z (a_.cons 4 Z .nil) .nil (iU 0 Z Z Z Z Z p.1 (by have m:=p.2;have n:=X;(try simp only[List.length_set]at m);(try simp only[List.length_set]at n);(try simp only[List.length_set]);omega)) aP.z ?_;refine eN (c_ 5 Z) λY=>bL Z (a_.cons 4 Z .nil) .nil (jD 0 Z Z Y Z Z p) aP.z<|pY 1 Z<|dB Z<|jQ 2 Z<|bH Z<|eN (c_ 5 Z) λaa=>?_;refine bL Z (a_.cons 4 Z .nil) .nil (iU 0 Z Z Z Z Z q.1 (by have m:=q.2;have n:=aa;(try simp only[List.length_set]at m);(try simp only[List.length_set]at n);(try simp only[List.length_set]);omega)) aP.z ?_;refine eN (c_ 5 Z) λab=>bL Z (a_.cons 4 Z .nil) .nil (jD 0 Z Z ab Z Z q) aP.z<|pY 0 Z<|JR.loud Z Z Z (bW (e:=b_) ([((g,d))]) [(0,Value.agg #[vI (g),vI (d)])] Z Z Z Z (zC (vI (g)) (vI (d))) Z Z Z) Z (λa0=>(v_ [([1],[]),([5],[]),([5],[]),([3],[]),([5],[]),([5],[]),([3],[]),([3],[]),([3],[])] Z)) λa0=>JR.loud Z Z Z (bW (e:=b_) ([((f,d))]) [(0,Value.agg #[vI (f),vI (d)])] Z Z Z Z (zC (vI (f)) (vI (d))) Z Z Z) Z (λa1=>(v_ [([6],[]),([6],[]),([4],[]),([3],[]),([6],[]),([6],[]),([4],[]),([4],[]),([4],[])] Z)) λa1=>JR.loud Z Z Z (qO 7 bQ Z Z Z (bB (aE.res 1 Z) bQ) Z Z Z Z p D Z) Z (λaC=>(v_ [([2],[]),([6],[]),([6],[]),([4],[]),([4],[]),([4],[])] Z)) λaC=>JR.loud Z Z Z (zJ (j:=f) 7 bQ Z Z Z (bB (aE.res 0 Z) bQ) Z Z Z Z q E Z F) Z (λaD=>(v_ [([4],[]),([4],[])] Z)) λaD=>eN (c_ 7 Z) λac=>?_;refine bL Z (a_.cons 6 Z .nil) .nil (iU 0 Z Z Z Z Z a.1 (by have m:=a.2;have n:=ac;(try simp only[List.length_set]at m);(try simp only[List.length_set]at n);(try simp only[List.length_set]);omega)) (hkI Z) ?_;refine eN (Cb (k:=f) (j:=g) 7 Z (by omega) ⟨a.1,by first|exact a.2|simpa using a.2⟩) λao=>?_;refine Dj Z Z Z (Bz 6 7 ⟨a.1,by first|exact a.2|simpa using a.2⟩ Z Z Z Z (by simp) ao Z) (λa6=>(v_ [([4],[])] Z)) λa6=>?_;refine bP 24 Z Z<|bZ (c_ 7 Z) λad=>?_;refine aB (iU 6 Z Z Z Z Z b.1 (by have m:=b.2;have n:=ad;(try simp only[List.length_set]at m);(try simp only[List.length_set]at n);(try simp only[List.length_set]);omega)) Z ?_;refine bZ (Bh 7 (k:=g) Z ⟨b.1,by first|exact b.2|simpa using b.2⟩) λap=>?_;refine qC 6 7 ⟨b.1,by first|exact b.2|simpa using b.2⟩ Z Z Z Z Z (by simp) ap Z ?_;refine eJ ?_;cases h;exact FM (List.set (List.set A (Int.toNat f) aC) (Int.toNat g) aD) Z Z .normal (.inr Z) (a_.ix [6,7] Z Z) aF.nil
 refine dB Z<|jQ 2 Z<|bH Z<|dB Z<|jQ 2 Z<|bH Z<|dB Z<|jQ 2 Z<|bH Z<|eN (c_ 5 Z) λae=>?_;refine bL Z (a_.cons 4 Z .nil) .nil (iU 0 Z Z Z Z Z p.1 (by have m:=p.2;have n:=ae;(try simp only[List.length_set]at m);(try simp only[List.length_set]at n);(try simp only[List.length_set]);omega)) aP.z ?_;refine eN (c_ 5 Z) λaf=>bL Z (a_.cons 4 Z .nil) .nil (jD 0 Z Z af Z Z p) aP.z<|pY 1 Z<|dB Z<|jQ 2 Z<|bH Z<|eN (c_ 5 Z) λag=>?_;refine bL Z (a_.cons 4 Z .nil) .nil (iU 0 Z Z Z Z Z q.1 (by have m:=q.2;have n:=ag;(try simp only[List.length_set]at m);(try simp only[List.length_set]at n);(try simp only[List.length_set]);omega)) aP.z ?_;refine eN (c_ 5 Z) λah=>bL Z (a_.cons 4 Z .nil) .nil (jD 0 Z Z ah Z Z q) aP.z<|pY 0 Z<|JR.loud Z Z Z (bW (e:=b_) ([((f,d))]) [(0,Value.agg #[vI (f),vI (d)])] Z Z Z Z (zC (vI (f)) (vI (d))) Z Z Z) Z (λa2=>(v_ [([5],[]),([5],[]),([3],[]),([2],[]),([5],[]),([5],[]),([3],[]),([3],[]),([3],[])] Z)) λa2=>JR.loud Z Z Z (bW (e:=b_) ([((g,d))]) [(0,Value.agg #[vI (g),vI (d)])] Z Z Z Z (zC (vI (g)) (vI (d))) Z Z Z) Z (λa3=>(v_ [([2],[]),([6],[]),([6],[]),([4],[]),([6],[]),([6],[]),([4],[]),([4],[]),([4],[])] Z)) λa3=>JR.loud Z Z Z (qO 7 bQ Z Z Z (bB (aE.res 0 Z) bQ) Z Z Z Z p D Z) Z (λaK=>(v_ [([2],[]),([6],[]),([6],[]),([4],[]),([4],[]),([4],[])] Z)) λaK=>JR.loud Z Z Z (zJ (j:=f) 7 bQ Z Z Z (bB (aE.res 1 Z) bQ) Z Z Z Z q E Z F) Z (λaQ=>(v_ [([4],[]),([4],[])] Z)) λaQ=>eN (c_ 7 Z) λai=>?_;refine bL Z (a_.cons 6 Z .nil) .nil (iU 0 Z Z Z Z Z a.1 (by have m:=a.2;have n:=ai;(try simp only[List.length_set]at m);(try simp only[List.length_set]at n);(try simp only[List.length_set]);omega)) (hkI Z) ?_;refine eN (Cb (k:=f) (j:=g) 7 Z (by omega) ⟨a.1,by first|exact a.2|simpa using a.2⟩) λaq=>?_;refine Dj Z Z Z (Bz 6 7 ⟨a.1,by first|exact a.2|simpa using a.2⟩ Z Z Z Z (by simp) aq Z) (λa7=>(v_ [([4],[])] Z)) λa7=>?_;refine bP 24 Z Z<|bZ (c_ 7 Z) λaj=>?_;refine aB (iU 6 Z Z Z Z Z b.1 (by have m:=b.2;have n:=aj;(try simp only[List.length_set]at m);(try simp only[List.length_set]at n);(try simp only[List.length_set]);omega)) Z ?_;refine bZ (Bh 7 (k:=g) Z ⟨b.1,by first|exact b.2|simpa using b.2⟩) λar=>?_;refine qC 6 7 ⟨b.1,by first|exact b.2|simpa using b.2⟩ Z Z Z Z Z (by simp) ar Z ?_;refine eJ ?_;cases h;exact FM (List.set (List.set A (Int.toNat f) aK) (Int.toNat g) aQ) Z Z .normal (.inr Z) (a_.ix [6,7] Z Z) aF.nil
def oC (b:Int) (a:aR):Option tA:=
 some ((a,(List.replicate (Int.toNat (wI .i64 ((1:Int)+b))) ([]:fM))))
def rU (a:nS) (c:xK->Option tA) (b:Int):Option tA:=
 ck ((List.length a.2:Int)+(List.length ([b]):Int)<=1099511627) (c ((wI .i64 (a.1+(1:Int))),(a.2++[b])))
def lB (b:iH->Option tA) (a:eZ):Option tA:=
 b (a.1,(wI .i64 (a.2+(1:Int))))
def lC (b:nS) (d:xK->Option tA) (a:eZ) (c:iH->Option tA):Option tA:=
 if a.2<b.1 then(ck (0<=a.2∧a.2<(List.length b.2:Int)) (if(at' b.2 a.2)=a.1 then(ck ((256:Int)≠0) (lB c ((Int.tmod (wI .i64 (a.1+(1:Int))) (256:Int)),(-1:Int))))else(lB c (a.1,a.2))))else(rU b d (a.1))
def jG (U:Nat) (f:Di) (e:Int) (a:nS) (b:xK->Option tA):Option tA:=
 if a.1<(wI .i64 ((1:Int)+e))then(Option.bind (sD U f.2.2.2.1 a.1) λc=>(Option.bind (gX U c (256:Int)) λd=>(bJ (lC a b) U (d,(0:Int)))))else(oC e (a.2))
def oY (U:Nat) (b:Di) (c:Int):Option tA:=
 Option.bind (gX U (wI .i64 (b.1 - (1:Int))) c) λa=>(ck (0<=(wI .i64 ((1:Int)+a))∧(wI .i64 ((1:Int)+a))<=1099511627) (bJ (jG U b a) U ((0:Int),([]:aR))))
theorem acK:aW Tryz.prog 47:=Tryz.call47
theorem EE (U:Nat) {d:Di} {S:Int} (y:Value)  (z:Value)  (u:Value) (r:EW) (h:oY U d S=some r):
  aX Tryz.prog 47 #[Value.agg #[vI (d.1),y,z,u,vB (d.2.2.2.2.1),vB (d.2.2.2.2.2)],vI (S)] [Sl bN y d.2.1,Sl bN z d.2.2.1,Sl bN u d.2.2.2.1] (λx:Value×Value×List Value=>Value.agg #[x.1,x.2.1]) (λx l=>Ar cC x.1 r.1::Ar cY.raw x.2.1 x.2.2::kX b_ x.2.2 r.2::l) (λ_ l=>l):=by
 refine aX.of Tryz.func47 Z Tryz.ntmps47 Z λc=>?_;refine aV<|aH (aM.box (cs:=[vI (d.1),y,z,u,vB (d.2.2.2.2.1),vB (d.2.2.2.2.2)]) Z Z) Z λt=>aH (aM.alloc (cs:=[k_,k_]) Z Z) Z λq=>aL<|aV<|bS Z<|dC 1 Z<|aB (lA Z Z) Z<|aA Z<|fH h λb W h=>aH (aM.callQ Dt (lO U  b W) Z .nil) Z λx5=>cJ Z<|aD Z<|aL<|aV<|aA Z<|cX h λT h=>iS (yZ b_ (Int.toNat (wI .i64 ((1:Int)+b))))<|aH (rR (e:=cY.raw) (k_) Z Z Z Z T Z Z Z) Z λn=>bZ (Know.one (aE.sl (bO (i:=0) (j:=1) Z Z bQ))) λK=>?_;refine aB (VS (r:=Value.agg #[k_,n]) Z (by intro w;simp[Instr.build,Instr.fill,fD,eD,dJ,fE,fF,eF,gK,fS K])) Z ?_;refine aH (aM.alloc (cs:=[k_,k_]) Z Z) Z λs=>bZ (Know.one (aE.sl (bO (i:=1) (j:=2) Z Z bQ))) λE=>bT 0 (vs:=[k_,n]) Z Z (kY Z (kY E Z)) Z Z Z<|aL<|aJ<|DG (B:=Value) (λp=>oC b p=some r) (λp o=>[(4,vP q),(6,vP s)]) (λp o=>[bU s [o,n] 29,Ar cY.raw n (List.replicate (Int.toNat (wI .i64 ((1:Int)+b))) (k_)),kX b_ (List.replicate (Int.toNat (wI .i64 ((1:Int)+b))) (k_)) (List.replicate (Int.toNat (wI .i64 ((1:Int)+b))) ([]:fM)),bU q [k_,k_] 29,Ar cC o p]) ?_ ?_
 ·refine aV<|aD Z<|aL<|aS<|iS (gJ cC)<|dU (B:=Value) (jG U d b) (λa f=>[(2,vP t),(4,vP q),(5,vI (wI .i64 ((1:Int)+b))),(6,vP s),(7,vI (a.1))]) (λa f=>[bU s [f,n] 29,Ar cY.raw n (List.replicate (Int.toNat (wI .i64 ((1:Int)+b))) (k_)),kX b_ (List.replicate (Int.toNat (wI .i64 ((1:Int)+b))) (k_)) (List.replicate (Int.toNat (wI .i64 ((1:Int)+b))) ([]:fM)),bU q [k_,k_] 29,bU t [vI (d.1),y,z,u,vB (d.2.2.2.2.1),vB (d.2.2.2.2.2)] 24,Ar cC f a.2]) ((0:Int),([]:aR)) (k_) h SF (a_.ix [1,2,3,4,5,0] Z Z) ?_;intro v a f h;refine aJ<|aV<|aA Z<|aA Z<|cM Z<|aL ?_;refine eX h Z (λh=>?_) λh=>?_
  ·refine cK<|aJ<|aS<|aV<|bS Z<|dC 4 Z<|aA Z<|fH h λO Q h=>aH (aM.callQ Jx (AZ U u O Q) Z (pO [2] Z)) Z λX=>fH h λJ R h=>aH (aM.callQ Dt (lO U  J R) Z .nil) Z λY=>aD Z<|aL<|aJ<|dR (λg=>rU a (bJ (jG U d b) v) g=some r) (λg A=>[(2,vP t),(4,vP q),(5,vI (wI .i64 ((1:Int)+b))),(6,vP s),(7,vI (a.1)),(8,vI (g))]) (λg A=>[bU s [f,n] 29,Ar cY.raw n (List.replicate (Int.toNat (wI .i64 ((1:Int)+b))) (k_)),kX b_ (List.replicate (Int.toNat (wI .i64 ((1:Int)+b))) (k_)) (List.replicate (Int.toNat (wI .i64 ((1:Int)+b))) ([]:fM)),bU q [k_,k_] 29,bU t [vI (d.1),y,z,u,vB (d.2.2.2.2.1),vB (d.2.2.2.2.2)] 24,Ar cC f a.2]) ?_ ?_
   ·refine aV<|aD Z<|aL<|aS<|dU (lC a (bJ (jG U d b) v)) (λk C=>[(2,vP t),(4,vP q),(5,vI (wI .i64 ((1:Int)+b))),(6,vP s),(7,vI (a.1)),(8,vI (k.1)),(9,vI (k.2))]) (λk C=>[bU s [f,n] 29,Ar cY.raw n (List.replicate (Int.toNat (wI .i64 ((1:Int)+b))) (k_)),kX b_ (List.replicate (Int.toNat (wI .i64 ((1:Int)+b))) (k_)) (List.replicate (Int.toNat (wI .i64 ((1:Int)+b))) ([]:fM)),bU q [k_,k_] 29,bU t [vI (d.1),y,z,u,vB (d.2.2.2.2.1),vB (d.2.2.2.2.2)] 24,Ar cC f a.2]) (J,(0:Int)) () h SF (a_.refl _) ?_;intro N k C h;refine aJ<|aV<|aA Z<|aA Z<|cM Z<|aL ?_;refine eX h Z (λh=>?_) λh=>?_
    ·refine cK<|aJ<|dR (λm=>lB (bJ (lC a (bJ (jG U d b) v)) N) m=some r) (λm D=>[(2,vP t),(4,vP q),(5,vI (wI .i64 ((1:Int)+b))),(6,vP s),(7,vI (a.1)),(8,vI (m.1)),(9,vI (m.2))]) (λm D=>[bU s [f,n] 29,Ar cY.raw n (List.replicate (Int.toNat (wI .i64 ((1:Int)+b))) (k_)),kX b_ (List.replicate (Int.toNat (wI .i64 ((1:Int)+b))) (k_)) (List.replicate (Int.toNat (wI .i64 ((1:Int)+b))) ([]:fM)),bU q [k_,k_] 29,bU t [vI (d.1),y,z,u,vB (d.2.2.2.2.1),vB (d.2.2.2.2.2)] 24,Ar cC f a.2]) ?_ ?_
     ·refine aS<|aV<|bS Z<|dC 0 Z<|aA Z<|cX h λI h=>aB (aY Z Z (bB (aE.res 5 Z) dM) Z Z I) Z<|aB (bV Z (bB (aE.res 5 Z) dM) Z Z Z dA I) Z<|aA Z<|cP Z<|aL ?_;refine eX h Z (λh=>?_) λh=>?_
      ·refine aO<|aA Z<|cJ Z<|cX h λM h=>aB (Jr Z Z M) Z<|aD Z<|aD Z<|eJ<|mI ?_;exact gY ((Int.tmod (wI .i64 (k.1+(1:Int))) (256:Int)),(-1:Int)) () h SF Z
      refine dL<|mI ?_;exact gY (k.1,k.2) () h SF Z
     intro m D h;unfold lB at h;refine aO<|aA Z<|cJ Z<|aD Z<|aL ?_;exact xY (m.1,(wI .i64 (m.2+(1:Int)))) () h SF Z
    refine fC ?_;exact gY (k.1) () h SF Z
   intro g A h;refine aO<|bS Z<|dC 0 Z<|aA Z<|aH (bW (e:=cC) ([g]) [(0,vI (g))] Z Z Z Z (mR (vI (g)) Z) Z Z Z) Z λV=>cX h λL h=>aH (eO 6 dM Z Z Z (bB (aE.res 0 Z) dM) Z Z Z Z L Z) Z λP=>bS Z<|bZ (Know.one ((bB (aE.res 6 Z) dM))) λH=>iG 1 Z Z H Z Z Z<|eJ<|mI<|aO<|aA Z<|cJ Z<|aD Z<|aL ?_;exact mL ((wI .i64 (a.1+(1:Int))),(a.2++[g])) (P) h SF (a_.ix [1,2,3,4,5,6] Z Z) (aF.refl _ _)
  refine fC ?_;exact cH (a.2) (f) h SF (a_.ix [0,1,2,3,5] Z Z) (aF.refl _ _)
 intro p o h;unfold oC at h;refine aV<|eT 0 Z<|bZ (Know.one ((bB (aE.res 4 Z) dM))) λF=>bZ (Know.one (aE.sl (bO (i:=1) (j:=2) Z Z bQ))) λG=>bT 3 (vs:=[o,n]) Z Z (kY F (kY G Z)) Z Z Z<|aL<|aU ?_;cases h;exact iB (o,n,(List.replicate (Int.toNat (wI .i64 ((1:Int)+b))) (k_))) Z Z (RV.cell 3 Z Z Z Z) (a_.ix [4,1,2] Z Z) aF.nil
def oT (b:EW) (a:gN):Option tA:=
 some ((b.1,a))
def tD (U:Nat) (b:Di) (i:EW) (a:Int×gN) (c:(Int×gN)->Option tA):Option tA:=
 if a.1<(List.length a.2:Int)then(Option.bind (sD U b.2.1 (wI .i64 (a.1 - (1:Int)))) λd=>(Option.bind (gX U d a.1) λe=>(Option.bind (sD U b.2.2.1 (wI .i64 (a.1 - (1:Int)))) λf=>(Option.bind (gX U f (15:Int)) λg=>(Option.bind (mX U ((b.1,b.2.1,b.2.2.1,b.2.2.2.1,b.2.2.2.2.1,b.2.2.2.2.2)) ((i.1,a.2)) e a.1 (wI .i64 ((1:Int)+g))) λh=>(c ((wI .i64 (a.1+(1:Int))),h)))))))else(oT i (a.2))
def mW (U:Nat) (a:Di) (c:Int):Option tA:=
 Option.bind (oY U ((a.1,a.2.1,a.2.2.1,a.2.2.2.1,a.2.2.2.2.1,a.2.2.2.2.2)) c) λb=>(bJ (tD U a b) U ((1:Int),b.2))
theorem Wj:aW Tryz.prog 26:=Tryz.call26
theorem AU (U:Nat) {p0:Di} {p1:Int} (g:Value)  (k:Value)  (n:Value) (r:EW) (h:mW U p0 p1=some r):
  aX Tryz.prog 26 #[Value.agg #[vI (p0.1),g,k,n,vB (p0.2.2.2.2.1),vB (p0.2.2.2.2.2)],vI (p1)] [Sl bN g p0.2.1,Sl bN k p0.2.2.1,Sl bN n p0.2.2.2.1] (λx:Value×Value×List Value=>Value.agg #[x.1,x.2.1]) (λx l=>Ar cC x.1 r.1::Ar cY.raw x.2.1 x.2.2::kX b_ x.2.2 r.2::l) (λ_ l=>l):=by
 refine aX.of Tryz.func26 Z Tryz.ntmps26 Z λc=>?_;refine aV<|aH (aM.box (cs:=[vI (p0.1),g,k,n,vB (p0.2.2.2.2.1),vB (p0.2.2.2.2.2)]) Z Z) Z λu=>aH (aM.alloc (cs:=[k_,k_]) Z Z) Z λo=>aL<|aV<|eT 1 Z<|aA Z<|fH h λm P h=>aH (aM.callQ acK (EE U g k n m P) Z (pO [0,1,2] Z)) Z λa=>aH (aM.alloc (cs:=[k_,k_]) Z Z) Z λp=>bZ (Know.one ((bB (aE.res 1 Z) dM))) λv=>bZ (Know.one (aE.sl (bO (i:=2) (j:=3) Z Z bQ))) λw=>bT 0 (vs:=[a.1,a.2.1]) Z Z (kY v (kY w Z)) Z Z Z<|aL<|aJ<|DG (B:=fV) (λe=>oT m e=some r) (λe f=>[(4,vP o),(5,vP p)]) (λe f=>[bU p [a.1,a.2.1] 29,Ar cC a.1 m.1,Ar cY.raw a.2.1 f,kX b_ f e,bU o [k_,k_] 29]) ?_ ?_
 ·refine aV<|aD Z<|aL<|aS<|dU (B:=fV) (tD U p0 m) (λd b=>[(2,vP u),(4,vP o),(5,vP p),(6,vI (d.1))]) (λd b=>[bU p [a.1,a.2.1] 29,Ar cC a.1 m.1,Ar cY.raw a.2.1 b,kX b_ b d.2,bU o [k_,k_] 29,bU u [vI (p0.1),g,k,n,vB (p0.2.2.2.2.1),vB (p0.2.2.2.2.2)] 24]) ((1:Int),m.2) (a.2.2) h SF (a_.refl _) ?_;intro O d b h;refine aJ<|aV<|aA Z<|bS Z<|dC 0 Z<|aB (iY Z (bO (i:=2) (j:=3) Z Z bQ) Z) Z<|cM Z<|aL ?_;refine eX h Z (λh=>?_) λh=>?_
  ·refine cK<|aJ<|aS ?_;refine JR.start [0,0,0,4,0,16,60,0,252,0,0,1024,0,4096,15868,32252,65020,131071] 17 mixedOrders (by decide +kernel) ?_;refine JR.open (by exact rfl) ?_;refine pY 5 Z<|pY 0 Z<|dB Z<|jQ 5 Z<|bH Z<|iF Z (lA Z Z)<|fH h λy E h=>JR.loud Z Z Z (aM.callQ Jx (AZ U g y E) Z (pO [0] Z)) Z (λJ=>(v_ [([0],[]),([5],[])] Z)) λJ=>iF Z (gQ Z)<|fH h λA F h=>JR.loud Z Z Z (aM.callQ Dt (lO U  A F) Z .nil) Z (λK=>(v_ [([0],[]),([5],[])] Z)) λK=>iF Z (gQ Z)<|iF Z (dO Z Z Z Z Z)<|bL Z (a_.cons 5 Z .nil) .nil (eW 0 Z Z Z Z Z) (aP.h (a_.ix [5] Z Z) .nil (aP.h (a_.ix [5] Z Z) .nil aP.z))<|iF Z (gQ Z)<|iF Z (lA Z Z)<|fH h λC G h=>JR.loud Z Z Z (aM.callQ Jx (AZ U k C G) Z (pO [1] Z)) Z (λL=>(v_ [([0],[]),([5],[])] Z)) λL=>fH h λD H h=>JR.loud Z Z Z (aM.callQ Dt (lO U  D H) Z .nil) Z (λM=>(v_ [([0],[]),([5],[])] Z)) λM=>iF Z (vA Z Z)<|bP 17 Z Z<|fH h λt I h=>aH (EZ (Min:=[Ar cY.raw a.2.1 b,kX b_ b d.2]) (Mr:=[bU p [a.1,a.2.1] 29,Ar cC a.1 m.1,bU o [k_,k_] 29,bU u [vI (p0.1),g,k,n,vB (p0.2.2.2.2.1),vB (p0.2.2.2.2.2)] 24]) Wn (AV U g k n a.1 a.2.1 b t I) Z (a_.ix [2,3,0,1,4,5] Z Z) (aF.cons (aE.fact 0 Z) (aF.cons (aE.fact 1 Z) (aF.cons (aE.fact 2 Z) (aF.cons (bB (aE.res 1 Z) dM) .nil)))) (λ_ _=>rfl)) Z λN=>eJ<|mI<|aO<|aA Z<|cJ Z<|aD Z<|aL ?_;exact mL ((wI .i64 (d.1+(1:Int))),t) (N) h SF (a_.ix [2,3,0,1,4,5] Z Z) (aF.refl _ _)
  refine fC ?_;exact cH (d.2) (b) h SF (a_.ix [0,1,2,3,4] Z Z) (aF.refl _ _)
 intro e f h;unfold oT at h;refine aV<|eT 0 Z<|bZ (Know.one ((bB (aE.res 1 Z) dM))) λq=>bZ (Know.one (aE.sl (bO (i:=2) (j:=3) Z Z bQ))) λs=>bT 4 (vs:=[a.1,a.2.1]) Z Z (kY q (kY s Z)) Z Z Z<|aL<|aU ?_;cases h;exact iB (a.1,a.2.1,f) Z Z (RV.cell 4 Z Z Z Z) (a_.ix [1,2,3] Z Z) aF.nil
def jR (U:Nat) (a:Int):Option (Int):=
 if a=(0:Int)then(some (32:Int))else(ck (0<=(27:Int)) (ck ((0<=(rD .u32 (wI .u32 ((dD .u32 a (wI .u32 (0 - a)))*(125613361:Int))) (27:Int))∧(rD .u32 (wI .u32 ((dD .u32 a (wI .u32 (0 - a)))*(125613361:Int))) (27:Int))<((32:Nat):Int))∧List.length xJ=32) (some (wI .i64 (at' xJ (rD .u32 (wI .u32 ((dD .u32 a (wI .u32 (0 - a)))*(125613361:Int))) (27:Int)))))))
theorem SC:aW Tryz.prog 150:=Tryz.call150
theorem xI (U:Nat) {b:Int} (r:Int) (h:jR U b=some r):
  aX Tryz.prog 150 #[vU (b)] [Gb 0 (cellsOf HO xJ)] (λx:Unit=>vI (r)) (λx l=>l) (λ_ l=>l):=by
 refine aX.of Tryz.func150 Z Tryz.ntmps150 Z λc=>?_;refine aV<|aD Z<|aL<|aJ<|aV<|aA Z<|cP Z<|aL ?_;refine eX h Z (λh=>?_) λh=>?_
 ·refine aV<|aD Z<|aL<|aU<|aI ?_;cases h;exact kH Z
 refine cK<|aV<|aA Z<|aA Z<|aB (So Z) Z<|Aa Z<|aB (zL Z Z) Z<|cX h λd h=>aB (Js Z Z d) Z<|cX h λa h=>aB (Oo Z Z Z Z Z a.1) Z<|aB (Uf (e:=HO) Z (aE.fact 0 Z) Z Z Z Z a) Z<|aB (Fg Z Z Z) Z<|aD Z<|aL<|aU ?_;cases h;exact kH Z
def jO  (a:Unit):Option (Bool):=
 some (true)
def gA (U:Nat) (d:aR) (e:Int) (a:Int) (c:(Int)->Option (Bool)):Option (Bool):=
 if a≠(0:Int)then(Option.bind (jR U a) λb=>(ck (0<=b∧b<(List.length d:Int)) (if(dD .u32 (at' d b) e)≠(0:Int)then(some (false))else(c (dD .u32 a (wI .u32 (a - (1:Int))))))))else(jO  (()))
def mB (U:Nat) (c:aR) (a:Int) (b:Unit):Option (Bool):=
 bJ (gA U c a) U (a)
def gV (U:Nat) (a:aR) (b:Int):Option (Bool):=
 mB U a b (())
theorem ZS:aW Tryz.prog 144:=Tryz.call144
theorem AT (U:Nat) {m:aR} {e:Int} (j:Value) (r:Bool) (h:gV U m e=some r):
  aX Tryz.prog 144 #[j,vU (e)] [Sl zK j m,Gb 0 (cellsOf HO xJ)] (λx:Unit=>vB (r)) (λx l=>l) (λ_ l=>l):=by
 refine aX.of Tryz.func144 Z Tryz.ntmps144 Z λc=>?_;unfold gV at h;refine iS Oh<|aV<|bZ (Know.one ((aE.fact 0 Z))) λw=>?_;refine aH (aM.box (cs:=[j]) Z (by rw[fS w])) Z λC=>?_;refine aH (aM.box (cs:=[vU (e)]) Z Z) Z λD=>aH (aM.alloc (cs:=[vB (false)]) Z Z) Z λu=>aL<|aJ<|QA (A:=Unit) (B:=pX) (λk g=>⟨16,Ke g⟩) (λk=>jO  k=some r) (λk g=>[(4,vP u)]) (λk g=>[bU u [vB (false)] 4,Mi g]) (λk g=>[Sl zK j m,Gb 0 (cellsOf HO xJ)]) ?_ ?_
 ·refine aV<|dC 1 Z<|By (A:=Unit) (B:=Nat) (vs:=[vU (e)]) (λb=>mB U m e b=some r) (λb a=>Value.func (.func 149) #[] #[vP a]) (λb a=>[bU a [vU (e)] 25,bU u [vB (false)] 4,bU D [vU (e)] 25,bU C [j] 94,Mi ([]:pX)]) (λb a=>[Sl zK j m,Gb 0 (cellsOf HO xJ)]) (tQ.fn (show aW Tryz.prog 115 from Tryz.call115) Z) Tryz.func115 Z Tryz.ntmps115 Z Z ?_ ?_
  ·refine aV<|aH (aM.box (cs:=[vU (e)]) Z Z) Z λo=>aD Z<|aL<|aV<|aB (xX (cs:=[.tmp 1]) (vs:=[vP o]) Z) Z<|aD Z<|aL<|aU ?_;exact u_ () (o) h (.inl Z) (Ha.r1 Z (RV.tmp Z)) Z (a_.refl _) (aF.refl _ _)
  intro b a h;unfold mB at h;refine aL<|aS<|FL (i:=4) (cs:=[vP a]) ([]:pX) Z (show aW Tryz.prog 149 from Tryz.call149) Z Tryz.func149 Z Tryz.ntmps149 Z λs f v p=>aS<|dU (gA U m e) (λd n=>[(0,xL s),(1,vP a)]) (λd n=>[Lp s v LoopState.ready none,bU a [vU (d)] 25,bU u [vB (false)] 4,bU D [vU (e)] 25,bU C [j] 94,Mi (List.cons f ([]:pX))]) (e) () h SF (a_.refl _) ?_;intro E d n h;refine aJ<|aV<|dC 1 Z<|p_ Z<|aL ?_;refine eX h Z (λh=>?_) λh=>?_
  ·refine cK<|aJ<|aS<|aV<|aA Z<|dC 1 Z<|fH h λt y h=>aH (aM.callQ SC (xI U  t y) Z (pO [1] Z)) Z λF=>NQ (us:=[vI (t)]) (i:=0) p Z Z Z Z Z Z<|aO<|aD Z<|aL<|Si (i:=0) Z<|aS<|aJ ?_;refine JR.start [0,0,3,7,0,31,63] 5 mixedOrders (by decide +kernel) ?_;refine JR.open (by exact rfl) ?_;refine jQ 4 Z<|bH Z<|cX h λq h=>bL Z .nil (lR 0 Z) (aY Z Z (aE.fact 0 Z) Z Z q) aP.z<|bL Z .nil (lR 0 Z) (bV Z (aE.fact 0 Z) Z Z Z G_ q) aP.z<|jQ 3 Z<|bP 5 Z Z<|Aa Z<|p_ Z<|aL ?_;refine eX h Z (λh=>?_) λh=>?_
   ·refine aV<|iG 2 Z Z Z Z Z Z<|aL<|aU<|bK<|Vy (i:=0) Z<|aB (nR Z) Z<|aL<|Sj Z<|aU<|bK<|aI<|aI<|bK<|Zl (i:=0) (.inl Z) Z (Ha.r0 Z)<|bK<|aI<|rP (i:=5) (Ds:=(List.cons f ([]:pX))) (.inl Z) Z ?_;cases h;exact iB () Z Z (Ob 2 Z Z Z Z) .nil aF.nil
   refine dL<|Vt<|Jd (i:=0) Z<|aB (nR Z) Z<|aL<|Iz Z<|dL<|mI<|aO<|dC 1 Z<|dC 1 Z<|aB (lA Z Z) Z<|Aa Z<|iG 1 Z Z Z Z Z Z<|aL ?_;exact xY (dD .u32 d (wI .u32 (d - (1:Int)))) () h SF Z
  refine rA<|eM<|eM<|xN<|Vx (i:=0) (.inr Z) Z (Ha.r0 Z)<|mI ?_;exact IB () (List.cons f ([]:pX)) Z h SF (a_.ix [2,5] Z Z) (aF.refl _ _)
 intro k g h;unfold jO at h;refine aV<|iG 0 Z Z Z Z Z Z<|aL<|aU<|rP (i:=1) (Ds:=(g)) (.inl Z) Z ?_;cases h;exact iB () Z Z (Ob 0 Z Z Z Z) .nil aF.nil
def lT (U:Nat) (d:aR) (b:Int) (e:Int) (a:Int) (c:Bool):Option (Bool):=
 if c=true then(some (false))else(if b=(1:Int)then(some (decide ((dD .u32 a (wI .u32 (a - (1:Int))))=(0:Int))))else(if b=(2:Int)then(Option.bind (gV U d a) λf=>(some (f)))else(if b=(4:Int)then(some (decide (a=e)))else(some (true)))))
def fP (U:Nat) (c:aR) (d:Int) (b:Int) (a:Int):Option (Bool):=
 if a=(0:Int)then(lT U c d b a (true))else(lT U c d b a (decide ((uF .u32 a b)≠(0:Int))))
theorem Sw:aW Tryz.prog 112:=Tryz.call112
theorem xG (U:Nat) {p0:aR} {p1:Int} {p2:Int} {p3:Int} (b:Value) (r:Bool) (h:fP U p0 p1 p2 p3=some r):
  aX Tryz.prog 112 #[b,vI (p1),vU (p2),vU (p3)] [Sl zK b p0,Gb 0 (cellsOf HO xJ)] (λx:Unit=>vB (r)) (λx l=>l) (λ_ l=>l):=by
 refine aX.of Tryz.func112 Z Tryz.ntmps112 Z λc=>?_;refine aV<|aD Z<|aL<|aJ<|aJ<|dR (λa=>lT U p0 p1 p2 p3 a=some r) (λa d=>[(0,b),(1,vI (p1)),(2,vU (p2)),(3,vU (p3)),(16,vB (a))]) (λa d=>[]) ?_ ?_
 ·refine aO<|aA Z<|cP Z<|aA Z ?_;refine Dg h Z (λ_ h=>?_) λ_ h=>?_
  ·refine aG Z<|aG Z<|aG Z<|aG Z<|dV Z<|aL ?_;exact gY (true) () h SF Z
  refine cO Z<|cO Z<|aN Z (Jq Z Z) Z<|aN Z (Dq Z Z) Z<|fK Z<|aL ?_;exact gY (decide ((uF .u32 p3 p2)≠(0:Int))) () h SF Z
 intro a d h;refine Ai h Z (λ_ h=>?_) λ_ h=>?_
 ·refine aV<|aD Z<|aL<|aU<|aI ?_;cases h;exact kH Z
 refine cK<|aJ<|aV<|aA Z<|aL<|aS<|aV<|cP Z<|aD Z<|aL ?_;refine eX h Z (λh=>?_) λh=>?_
 ·refine aV<|aA Z<|aA Z<|aB (lA Z Z) Z<|Aa Z<|cP Z<|aD Z<|aL<|aU<|bK<|aI ?_;cases h;exact kH Z
 refine aV<|cP Z<|aD Z<|aL ?_;refine eX h Z (λh=>?_) λh=>?_
 ·refine aV<|aA Z<|aA Z<|fH h λe f h=>aH (aM.callQ ZS (AT U b e f) Z (pO [0,1] Z)) Z λg=>aD Z<|aL<|aU<|bK<|aI ?_;cases h;exact kH Z
 refine aV<|cP Z<|aD Z<|aL ?_;refine eX h Z (λh=>?_) λh=>?_
 ·refine aV<|aA Z<|aA Z<|cP Z<|aD Z<|aL<|aU<|bK<|aI ?_;cases h;exact kH Z
 refine dL<|mI<|aV<|aD Z<|aL<|aU ?_;cases h;exact kH Z
def lU  (a:Int):Option (Int):=
 some (a)
def jF (a:eZ) (b:iH->Option (Int)) (c:Int):Option (Int):=
 b ((dD .u32 a.1 (wI .u32 (a.1 - (1:Int)))),c)
def eB (U:Nat) (d:aR) (a:eZ) (c:iH->Option (Int)):Option (Int):=
 if a.1≠(0:Int)then(Option.bind (jR U a.1) λb=>(ck (0<=b∧b<(List.length d:Int)) (if(dD .u32 (at' d b) a.2)=(0:Int)then(ck (0<=b) (jF a c (FX .u32 a.2 (vC .u32 (1:Int) b))))else(jF a c (a.2)))))else(lU  (a.2))
def pD (U:Nat) (c:aR) (b:Int) (a:Unit):Option (Int):=
 bJ (eB U c) U (b,(0:Int))
def jE (U:Nat) (c:aR) (b:Int) (d:Int) (a:Int):Option (Int):=
 if b=(1:Int)then(some (dD .u32 a (wI .u32 (0 - a))))else(if b=(2:Int)then(pD U c a (()))else(if b=(4:Int)then(some (d))else(some (a))))
def eR (U:Nat) (b:aR) (c:Int) (a:Int) (d:Int):Option (Int):=
 if(dD .u32 d a)=(0:Int)then(jE U b c a (dD .u32 a (wI .u32 (0 - a))))else(jE U b c a (dD .u32 d a))
theorem Wt:aW Tryz.prog 83:=Tryz.call83
theorem xH (U:Nat) {p0:aR} {p1:Int} {p2:Int} {p3:Int} (k:Value) (r:Int) (h:eR U p0 p1 p2 p3=some r):
  aX Tryz.prog 83 #[k,vI (p1),vU (p2),vU (p3)] [Sl zK k p0,Gb 0 (cellsOf HO xJ)] (λx:Unit=>vU (r)) (λx l=>l) (λ_ l=>l):=by
 refine aX.of Tryz.func83 Z Tryz.ntmps83 Z λc=>?_;refine iS Oh<|aV<|bZ (Know.one ((aE.fact 0 Z))) λD=>?_;refine aH (aM.box (cs:=[k]) Z (by rw[fS D])) Z λq=>?_;refine aD Z<|aL<|aV<|aA Z<|aA Z<|Aa Z<|aD Z<|aL<|aJ<|QA (A:=Int) (B:=Unit) (λg C=>⟨48,Ke ([]:pX)⟩) (λg=>jE U p0 p1 p2 g=some r) (λg C=>[(1,vI (p1)),(2,vU (p2)),(3,vU (g)),(4,vP q),(8,vU (0:Int))]) (λg C=>[bU q [k] 94,Mi ([]:pX)]) (λg C=>[Sl zK k p0,Gb 0 (cellsOf HO xJ)]) ?_ ?_
 ·refine aV<|aA Z<|cP Z<|aL ?_;refine eX h Z (λh=>?_) λh=>?_
  ·refine aO<|aA Z<|aA Z<|aB (So Z) Z<|Aa Z<|aD Z<|aL ?_;exact IB (dD .u32 p2 (wI .u32 (0 - p2))) () Z h SF (a_.refl _) (aF.refl _ _)
  refine cK ?_;exact IB (dD .u32 p3 p2) () Z h SF (a_.refl _) (aF.refl _ _)
 intro g C h;refine aJ<|aV<|aA Z<|aL<|aS<|aV<|cP Z<|aD Z<|aL ?_;refine eX h Z (λh=>?_) λh=>?_
 ·refine aV<|aA Z<|aA Z<|aB (So Z) Z<|Aa Z<|aD Z<|aL<|aU<|bK<|aI<|rP (i:=1) (Ds:=([]:pX)) (.inl Z) Z ?_;cases h;exact tO Z
 refine aV<|cP Z<|aD Z<|aL ?_;refine eX h Z (λh=>?_) λh=>?_
 ·refine aV<|aH (aM.alloc (cs:=[vU (0:Int)]) Z Z) Z λv=>iG 0 Z Z Z Z Z Z<|aL<|aJ<|QA (A:=Int) (B:=pX) (λd e=>⟨48,Ke e⟩) (λd=>lU  d=some r) (λd e=>[(9,vP v)]) (λd e=>[bU v [vU (d)] 25,Mi e]) (λd e=>[Sl zK k p0,Gb 0 (cellsOf HO xJ)]) ?_ ?_
  ·refine aV<|aA Z<|By (A:=Unit) (B:=Nat) (vs:=[vU (g)]) (λj=>pD U p0 g j=some r) (λj b=>Value.func (.func 149) #[] #[vP b]) (λj b=>[bU b [vU (g)] 25,bU v [vU (0:Int)] 25,bU q [k] 94,Mi ([]:pX)]) (λj b=>[Sl zK k p0,Gb 0 (cellsOf HO xJ)]) (tQ.fn (show aW Tryz.prog 115 from Tryz.call115) Z) Tryz.func115 Z Tryz.ntmps115 Z Z ?_ ?_
   ·refine aV<|aH (aM.box (cs:=[vU (g)]) Z Z) Z λu=>aD Z<|aL<|aV<|aB (xX (cs:=[.tmp 1]) (vs:=[vP u]) Z) Z<|aD Z<|aL<|aU ?_;exact u_ () (u) h (.inl Z) (Ha.r1 Z (RV.tmp Z)) Z (a_.refl _) (aF.refl _ _)
   intro j b h;unfold pD at h;refine aL<|aS<|FL (i:=3) (cs:=[vP b]) ([]:pX) Z (show aW Tryz.prog 149 from Tryz.call149) Z Tryz.func149 Z Tryz.ntmps149 Z λm n p w=>aS<|dU (eB U p0) (λa s=>[(0,xL m),(1,vP b)]) (λa s=>[Lp m p LoopState.ready none,bU b [vU (a.1)] 25,bU v [vU (a.2)] 25,bU q [k] 94,Mi (List.cons n ([]:pX))]) (g,(0:Int)) () h SF (a_.refl _) ?_;intro F a s h;refine aJ<|aV<|dC 1 Z<|p_ Z<|aL ?_;refine eX h Z (λh=>?_) λh=>?_
   ·refine cK<|aJ<|dR (λf=>jF a (bJ (eB U p0) F) f=some r) (λf t=>[(0,xL m),(1,vP b)]) (λf t=>[Lp m p LoopState.ready none,bU b [vU (a.1)] 25,bU v [vU (f)] 25,bU q [k] 94,Mi (List.cons n ([]:pX))]) ?_ ?_
    ·refine aS<|aV<|aA Z<|dC 1 Z<|fH h λo G h=>aH (aM.callQ SC (xI U  o G) Z (pO [1] Z)) Z λH=>NQ (us:=[vI (o)]) (i:=0) w Z Z Z Z Z Z<|aO<|aD Z<|aL<|Si (i:=0) Z<|aS<|aJ ?_;refine JR.start [0,0,3,7,0,31,63] 5 mixedOrders (by decide +kernel) ?_;refine JR.open (by exact rfl) ?_;refine jQ 3 Z<|bH Z<|cX h λy h=>bL Z .nil (lR 0 Z) (aY Z Z (aE.fact 0 Z) Z Z y) aP.z<|bL Z .nil (lR 0 Z) (bV Z (aE.fact 0 Z) Z Z Z G_ y) aP.z<|jQ 2 Z<|bP 5 Z Z<|Aa Z<|cP Z<|aL ?_;refine eX h Z (λh=>?_) λh=>?_
     ·refine JR.start [0,0,2,7,15] 3 mixedOrders (by decide +kernel) ?_;refine JR.open (by exact rfl) ?_;refine jQ 2 Z<|bH Z<|cX h λE h=>iF Z (HR Z Z E)<|bP 3 Z Z<|aB (QL Z Z) Z<|iG 2 Z Z Z Z Z Z<|eJ<|Vt<|Jd (i:=0) Z<|aB (nR Z) Z<|aL<|Iz Z<|dL<|mI ?_;exact gY (FX .u32 a.2 (vC .u32 (1:Int) o)) () h SF Z
     refine dL<|Vt<|Jd (i:=0) Z<|aB (nR Z) Z<|aL<|Iz Z<|dL<|mI ?_;exact gY (a.2) () h SF Z
    intro f t h;unfold jF at h;refine aO<|dC 1 Z<|dC 1 Z<|aB (lA Z Z) Z<|Aa Z<|iG 1 Z Z Z Z Z Z<|aL ?_;exact xY ((dD .u32 a.1 (wI .u32 (a.1 - (1:Int)))),f) () h SF Z
   refine rA<|eM<|eM<|xN<|Vx (i:=0) (.inr Z) Z (Ha.r0 Z)<|mI ?_;exact IB (a.2) (List.cons n ([]:pX)) Z h SF (a_.ix [2,4] Z Z) (aF.refl _ _)
  intro d e h;unfold lU at h;refine aV<|dC 0 Z<|aD Z<|aL<|aU<|bK<|aI<|rP (i:=1) (Ds:=(e)) (.inl Z) Z ?_;cases h;exact tO Z
 refine aV<|cP Z<|aD Z<|aL ?_;refine eX h Z (λh=>?_) λh=>?_
 ·refine aV<|aA Z<|aD Z<|aL<|aU<|bK<|aI<|rP (i:=1) (Ds:=([]:pX)) (.inl Z) Z ?_;cases h;exact tO Z
 refine dL<|mI<|aV<|aA Z<|aD Z<|aL<|aU<|rP (i:=1) (Ds:=([]:pX)) (.inl Z) Z ?_;cases h;exact tO Z
def uL  (a:aR):Option aR:=
 some (a)
def qR (c:Int×aR×aR) (b:(Int×aR×aR)->Option aR) (a:aR×aR):Option aR:=
 b ((wI .i64 (c.1+(1:Int))),a.1,a.2)
def qS (c:cQ) (b:aR×aR) (e:(aR×aR)->Option aR) (a:Int×aR×aR) (d:(Int×aR×aR)->Option aR):Option aR:=
 if a.1<(List.length (at' c.2 (at' b.1 (0:Int))):Int)then(ck (0<=a.1∧a.1<(List.length (at' c.2 (at' b.1 (0:Int))):Int)) (ck (0<=((at' (at' c.2 (at' b.1 (0:Int))) a.1).1)∧((at' (at' c.2 (at' b.1 (0:Int))) a.1).1)<(List.length a.2.2:Int)) (if(at' a.2.2 ((at' (at' c.2 (at' b.1 (0:Int))) a.1).1))<(0:Int)then(ck (0<=(at' b.1 (0:Int))∧(at' b.1 (0:Int))<(List.length a.2.2:Int)) (ck (0<=((at' (at' c.2 (at' b.1 (0:Int))) a.1).1)∧((at' (at' c.2 (at' b.1 (0:Int))) a.1).1)<(List.length a.2.2:Int)) (ck ((List.length a.2.1:Int)+(List.length ([((at' (at' c.2 (at' b.1 (0:Int))) a.1).1)]):Int)<=1099511627) (qR a d ((a.2.1++([((at' (at' c.2 (at' b.1 (0:Int))) a.1).1)])),(List.set a.2.2 (Int.toNat ((at' (at' c.2 (at' b.1 (0:Int))) a.1).1)) (wI .i64 ((at' a.2.2 (at' b.1 (0:Int)))+(1:Int)))))))))else(qR a d (a.2.1,a.2.2)))))else(e (a.2.1,a.2.2))
def nV (U:Nat) (c:cQ) (a:aR×aR) (b:(aR×aR)->Option aR):Option aR:=
 if(0:Int)<(List.length a.1:Int)then(ck (0<=(0:Int)∧(0:Int)<(List.length a.1:Int)) (ck (0<=(1:Int)∧(1:Int)<=(List.length a.1:Int)) (ck (0<=(at' a.1 (0:Int))∧(at' a.1 (0:Int))<(List.length c.2:Int)) (bJ (qS c a b) U ((0:Int),(List.drop (Int.toNat (1:Int)) a.1),a.2)))))else(uL  (a.2))
def zN (U:Nat) (c:cQ) (a:Int) (b:aR):Option aR:=
 ck (0<=a∧a<(List.length b:Int)) (bJ (nV U c) U (([a]),(List.set b (Int.toNat a) (0:Int))))
def zO (U:Nat) (c:cQ) (d:Int) (a:nS) (b:xK->Option aR):Option aR:=
 if a.1<(List.length (List.replicate (Int.toNat (List.length c.2:Int)) (0:Int)):Int)then(ck (0<=a.1∧a.1<(List.length a.2:Int)) (b ((wI .i64 (a.1+(1:Int))),(List.set a.2 (Int.toNat a.1) (-1:Int)))))else(zN U c d (a.2))
def jS (U:Nat) (a:cQ) (b:Int):Option aR:=
 ck (0<=(List.length a.2:Int)∧(List.length a.2:Int)<=1099511627) (bJ (zO U a b) U ((0:Int),(List.replicate (Int.toNat (List.length a.2:Int)) (0:Int))))
theorem Wq:aW Tryz.prog 63:=Tryz.call63
theorem DY (U:Nat) {d:cQ} {o:Int} (s:Value)  (t:Value)  (M:lX) (r:aR) (h:jS U d o=some r):
  aX Tryz.prog 63 #[Value.agg #[s,t],vI (o)] [Sl bN s d.1,S2 bD t M d.2] (λx:Value=>x) (λx l=>Ar cC x r::l) (λ_ l=>l):=by
 refine aX.of Tryz.func63 Z Tryz.ntmps63 Z λc=>?_;refine aV<|aH (aM.box (cs:=[s,t]) Z Z) Z λp=>aD Z<|aL<|aV<|bS Z<|dC 0 Z<|aB (iY Z (aE.fact 1 Z) Z) Z<|cX h λQ h=>aH (rR (e:=cC) (0:Int) Z Z Z Z Q Z Z Z) Z λk=>aD Z<|aL<|aJ<|dR (λu=>zN U d o u=some r) (λu N=>[(1,vI (o)),(2,vP p),(5,k)]) (λu N=>[Ar cC k u,bU p [s,t] 29]) ?_ ?_
 ·refine aV<|aA Z<|aB (fW Z (bB (aE.res 0 Z) dM) Z) Z<|aA Z<|aL<|aS<|dU (zO U d o) (λg w=>[(1,vI (o)),(2,vP p),(5,k),(16,vI (List.length (List.replicate (Int.toNat (List.length d.2:Int)) (0:Int)):Int)),(17,vI (g.1))]) (λg w=>[Ar cC k g.2,bU p [s,t] 29]) ((0:Int),(List.replicate (Int.toNat (List.length d.2:Int)) (0:Int))) () h SF (a_.refl _) ?_;intro R g w h;refine aV<|cM Z<|aL<|aJ ?_;refine eX h Z (λh=>?_) λh=>?_
  ·refine cK<|aJ<|aS<|aV<|aA Z<|aD Z<|aL<|aO<|aA Z<|aA Z<|cX h λF h=>aB (aY Z Z (bB (aE.res 0 Z) dM) Z Z F) Z<|AB 0 (-1:Int) F Z Z Z Z Z Z Z<|eJ<|mI<|aO<|cJ Z<|aA Z<|aL ?_;exact xY ((wI .i64 (g.1+(1:Int))),(List.set g.2 (Int.toNat g.1) (-1:Int))) () h SF Z
  refine fC ?_;exact gY (g.2) () h SF Z
 intro u N h;refine aV<|aA Z<|aA Z<|cX h λO h=>aB (aY Z Z (bB (aE.res 0 Z) dM) Z Z O) Z<|AB 0 (0:Int) O Z Z Z Z Z Z Z<|aL<|aV<|aA Z<|aH (bW (e:=cC) ([o]) [(0,vI (o))] Z Z Z Z (mR (vI (o)) Z) Z Z Z) Z λT=>aD Z<|aL<|aJ<|dR (λm=>uL  m=some r) (λm v=>[(5,k)]) (λm v=>[Ar cC k m]) ?_ ?_
 ·refine aS<|dU (B:=Value) (nV U d) (λa q=>[(2,vP p),(5,k),(7,q)]) (λa q=>[Ar cC q a.1,Ar cC k a.2,bU p [s,t] 29]) (([o]),(List.set u (Int.toNat o) (0:Int))) (T) h SF (a_.refl _) ?_;intro G a q h;refine aJ<|aV<|aA Z<|aB (fW Z (bB (aE.res 0 Z) dM) Z) Z<|aB (zA Z Z) Z<|aL ?_;refine eX h Z (λh=>?_) λh=>?_
  ·refine cK<|aS<|aV<|aA Z<|cX h λy h=>aB (aY Z Z (bB (aE.res 0 Z) dM) Z Z y) Z<|aB (bV Z (bB (aE.res 0 Z) dM) Z Z Z dA y) Z<|aD Z<|aL<|aV<|aA Z<|cX h λH h=>aH (NS 0 H Z Z Z Z Z Z) Z λK=>aD Z<|aL<|aV<|bS Z<|dC 2 Z<|aA Z<|cX h λi h=>aB (cA Z Z (aE.fact 1 Z) Z Z i) Z<|aB (cF Z (aE.fact 1 Z) Z Z i) Z<|aB (fW Z (aE.el (aE.fact 1 Z) i.1 i.2) Z) Z<|aA Z<|aL<|aS<|dU (B:=Value) (qS d a (bJ (nV U d) G)) (λb j=>[(2,vP p),(5,k),(7,j),(8,vI (at' a.1 (0:Int))),(41,(at' M (at' a.1 (0:Int))).1),(42,vI (List.length (at' d.2 (at' a.1 (0:Int))):Int)),(43,vI (b.1))]) (λb j=>[Ar cC j b.2.1,Ar cC k b.2.2,bU p [s,t] 29]) ((0:Int),(List.drop (Int.toNat (1:Int)) a.1),a.2) (K) h SF (a_.refl _) ?_;intro J b j h;refine aV<|cM Z<|aL<|aJ ?_;refine eX h Z (λh=>?_) λh=>?_
   ·refine cK<|aJ<|DG (B:=Value) (λf=>qR b (bJ (qS d a (bJ (nV U d) G)) J) f=some r) (λf n=>[(2,vP p),(5,k),(7,n),(8,vI (at' a.1 (0:Int))),(41,(at' M (at' a.1 (0:Int))).1),(42,vI (List.length (at' d.2 (at' a.1 (0:Int))):Int)),(43,vI (b.1))]) (λf n=>[Ar cC n f.1,Ar cC k f.2,bU p [s,t] 29]) ?_ ?_
    ·refine aS<|aV<|cX h λA h=>aB (aY Z Z (aE.el (aE.fact 1 Z) i.1 i.2) Z Z A) Z<|aB (iZ (cs:=[vI ((at' (at' d.2 (at' a.1 (0:Int))) b.1).1),vI ((at' (at' d.2 (at' a.1 (0:Int))) b.1).2)]) Z (aE.el (aE.fact 1 Z) i.1 i.2) bQ Z Z Z Z A) Z<|aH (aM.alloc (cs:=Vd) Z Z) Z λP=>bT 0 (vs:=[vI ((at' (at' d.2 (at' a.1 (0:Int))) b.1).1),vI ((at' (at' d.2 (at' a.1 (0:Int))) b.1).2)]) Z Z Z Z Z Z<|aL<|aV<|aA Z<|bS Z<|dC 0 Z<|cX h λC h=>aB (aY Z Z (bB (aE.res 2 Z) dM) Z Z C) Z<|aB (bV Z (bB (aE.res 2 Z) dM) Z Z Z dA C) Z<|cM Z<|aL ?_;refine eX h Z (λh=>?_) λh=>?_
     ·refine aJ ?_;refine JR.start [0,0,2,0,0,24,56,120,255,511] 8 mixedOrders (by decide +kernel) ?_;refine JR.open (by exact rfl) ?_;refine bH Z<|dB Z<|jQ 0 Z<|bH Z<|bH Z<|cX h λD h=>bL Z (a_.cons 2 Z .nil) .nil (aY Z Z (bB (aE.res 0 Z) dM) Z Z D) aP.z<|bL Z (a_.cons 2 Z .nil) .nil (bV Z (bB (aE.res 0 Z) dM) Z Z Z dA D) aP.z<|iF Z (vA Z Z)<|bP 8 Z Z<|cX h λE h=>aB (aY Z Z (bB (aE.res 2 Z) dM) Z Z E) Z<|AB 2 (wI .i64 ((at' b.2.2 (at' a.1 (0:Int)))+(1:Int))) E Z Z Z Z Z Z Z<|aL<|aO<|aA Z<|bS Z<|dC 0 Z<|aH (bW (e:=cC) ([((at' (at' d.2 (at' a.1 (0:Int))) b.1).1)]) [(0,vI ((at' (at' d.2 (at' a.1 (0:Int))) b.1).1))] Z Z Z Z (mR (vI ((at' (at' d.2 (at' a.1 (0:Int))) b.1).1)) Z) Z Z Z) Z λS=>cX h λI h=>aH (eO 2 dM Z Z Z (bB (aE.res 0 Z) dM) Z Z Z Z I Z) Z λL=>aD Z<|eJ<|mI ?_;exact cH ((b.2.1++([((at' (at' d.2 (at' a.1 (0:Int))) b.1).1)])),(List.set b.2.2 (Int.toNat ((at' (at' d.2 (at' a.1 (0:Int))) b.1).1)) (wI .i64 ((at' b.2.2 (at' a.1 (0:Int)))+(1:Int))))) (L) h SF (a_.ix [2,3,4] Z Z) (aF.refl _ _)
     refine dL<|mI ?_;exact cH (b.2.1,b.2.2) (j) h SF (a_.ix [1,2,3] Z Z) (aF.refl _ _)
    intro f n h;unfold qR at h;refine aO<|cJ Z<|aA Z<|aL ?_;exact xY ((wI .i64 (b.1+(1:Int))),f.1,f.2) (n) h SF Z
   refine rA<|eM<|eM<|xN<|mI ?_;exact xY (b.2.1,b.2.2) (j) h SF Z
  refine fC ?_;exact cH (a.2) () h SF (a_.ix [1] Z Z) (aF.refl _ _)
 intro m v h;unfold uL at h;refine aV<|aA Z<|aD Z<|aL<|aU ?_;cases h;exact iB (k) Z Z (RV.tmp Z) (a_.refl _) aF.nil
def qF  (a:Unit):Option (Bool):=
 some (true)
def kR (c:aR) (a:Int) (b:(Int)->Option (Bool)):Option (Bool):=
 if a<(List.length c:Int)then(ck (0<=a∧a<(List.length c:Int)) (if(at' c a)<(0:Int)then(some (false))else(b (wI .i64 (a+(1:Int))))))else(qF  (()))
def fJ (U:Nat) (a:cQ):Option (Bool):=
 Option.bind (g_ U ((a.1,a.2))) λb=>(if(!b)=true then(some (false))else(Option.bind (jS U ((a.1,a.2)) (0:Int)) λc=>(bJ (kR c) U (0:Int))))
theorem Wp:aW Tryz.prog 61:=Tryz.call61
theorem Bv (U:Nat) {k:cQ} (e:Value)  (f:Value)  (m:lX) (r:Bool) (h:fJ U k=some r):
  aX Tryz.prog 61 #[Value.agg #[e,f]] [Sl bN e k.1,S2 bD f m k.2] (λx:Unit=>vB (r)) (λx l=>l) (λ_ l=>l):=by
 refine aX.of Tryz.func61 Z Tryz.ntmps61 Z λc=>?_;refine aV<|aH (aM.box (cs:=[e,f]) Z Z) Z λt=>aD Z<|aL<|aJ<|aV<|eT 0 Z<|fH h λp q h=>aH (aM.callQ ME (yT U e f m p q) Z (pO [0,1] Z)) Z λu=>aB (nR Z) Z<|aL ?_;refine Ai h Z (λ_ h=>?_) λ_ h=>?_
 ·refine aV<|aD Z<|aL<|aU<|aI ?_;cases h;exact tO Z
 refine cK<|aJ<|dR (λi=>qF  i=some r) (λi n=>[]) (λi n=>[]) ?_ ?_
 ·refine aV<|eT 0 Z<|fH h λj s h=>aH (aM.callQ Wq (DY U e f m j s) Z (pO [0,1] Z)) Z λg=>aB (fW Z (bB (aE.res 0 Z) dM) Z) Z<|aA Z<|aL<|aS<|dU (kR j) (λa b=>[(9,g),(10,vI (List.length j:Int)),(11,vI (a))]) (λa b=>[Ar cC g j]) (0:Int) () h SF (a_.ix [0] Z Z) ?_;intro o a b h;refine aV<|cM Z<|aL<|aJ ?_;refine eX h Z (λh=>?_) λh=>?_
  ·refine cK<|aJ<|aS<|aV<|cX h λd h=>aB (aY Z Z (bB (aE.res 0 Z) dM) Z Z d) Z<|aB (bV Z (bB (aE.res 0 Z) dM) Z Z Z dA d) Z<|aD Z<|aL<|aV<|aA Z<|cM Z<|aL ?_;refine eX h Z (λh=>?_) λh=>?_
   ·refine aV<|aD Z<|aL<|aU<|bK<|aI<|aI<|bK<|aI ?_;cases h;exact tO Z
   refine dL<|mI<|aO<|cJ Z<|aA Z<|aL ?_;exact xY (wI .i64 (a+(1:Int))) () h SF Z
  refine fC ?_;exact cH () (()) h SF .nil (aF.refl _ _)
 intro i n h;unfold qF at h;refine aV<|aD Z<|aL<|aU ?_;cases h;exact kH Z
def Bq (U:Nat) (a:cQ):Option (Bool):=
 Option.bind (fJ U ((a.1,a.2))) λb=>(some (b))
theorem acJ:aW Tryz.prog 39:=Tryz.call39
theorem PQ (U:Nat) {d:cQ} (a:Value)  (b:Value)  (e:lX) (r:Bool) (h:Bq U d=some r):
  aX Tryz.prog 39 #[Value.agg #[a,b]] [Sl bN a d.1,S2 bD b e d.2] (λx:Unit=>vB (r)) (λx l=>l) (λ_ l=>l):=by
 refine aX.of Tryz.func39 Z Tryz.ntmps39 Z λc=>?_;refine aV<|aH (aM.box (cs:=[a,b]) Z Z) Z λi=>aD Z<|aL<|aV<|eT 0 Z<|fH h λf g h=>aH (aM.callQ Wp (Bv U a b e f g) Z (pO [0,1] Z)) Z λj=>aD Z<|aL<|aU ?_;cases h;exact tO Z
def rV  (a:Unit):Option (Bool):=
 some (true)
def lD (c:Int) (a:(Int)->Option (Bool)) (b:Unit):Option (Bool):=
 a (wI .i64 (c+(1:Int)))
def gT (b:Int) (a:(Int)->Option (Bool)) (c:Bool):Option (Bool):=
 if c=true then(some (false))else(a (wI .i64 (b+(1:Int))))
def gS (e:bG) (d:Int) (a:Int) (b:(Int)->Option (Bool)) (c:eZ):Option (Bool):=
 if(at' (at' e d) a)<c.1 then(gT a b (true))else(gT a b (decide (c.2<(at' (at' e d) a))))
def cW (g:cQ) (d:bG) (f:aR) (b:Int) (e:(Int)->Option (Bool)) (a:Int) (c:(Int)->Option (Bool)):Option (Bool):=
 if a<(List.length (at' d b):Int)then(ck (0<=a∧a<(List.length (at' d b):Int)) (ck (0<=a∧a<(List.length f:Int)) (if(at' f a)=(-1:Int)then(ck (0<=b∧b<(List.length g.2:Int)) (gS d b a c ((-1:Int),(wI .i64 ((List.length (at' g.2 b):Int) - (1:Int))))))else(gS d b a c ((0:Int),(at' f a))))))else(lD b e (()))
def fO (U:Nat) (e:cQ) (b:bG) (d:aR) (a:Int) (c:(Int)->Option (Bool)):Option (Bool):=
 if a<(List.length b:Int)then(ck (0<=a∧a<(List.length b:Int)) (if(List.length (at' b a):Int)≠(List.length d:Int)then(some (false))else(bJ (cW e b d a c) U (0:Int))))else(rV  (()))
def dQ (U:Nat) (a:cQ) (b:bG) (c:aR):Option (Bool):=
 if(List.length b:Int)≠(List.length a.1:Int)then(some (false))else(bJ (fO U a b c) U (0:Int))
theorem Wo:aW Tryz.prog 56:=Tryz.call56
theorem Ab (U:Nat) {g:cQ} {e:bG} {j:aR} (o:Value)  (p:Value)  (H:lX)  (q:Value)  (E:sH)  (s:Value) (r:Bool) (h:dQ U g e j=some r):
  aX Tryz.prog 56 #[Value.agg #[o,p],q,s] [Sl bN o g.1,S2 bD p H g.2,S2 bN q E e,Sl bN s j] (λx:Unit=>vB (r)) (λx l=>l) (λ_ l=>l):=by
 refine aX.of Tryz.func56 Z Tryz.ntmps56 Z λc=>?_;refine aV<|aH (aM.box (cs:=[o,p]) Z Z) Z λk=>aD Z<|aL<|aJ<|aV<|aA Z<|aB (iY Z (aE.fact 2 Z) Z) Z<|bS Z<|dC 0 Z<|kB (aE.fact 0 Z) Z<|p_ Z<|aL ?_;refine eX h Z (λh=>?_) λh=>?_
 ·refine aV<|aD Z<|aL<|aU<|aI ?_;cases h;exact tO Z
 refine cK<|aJ<|dR (λC=>rV  C=some r) (λC F=>[]) (λC F=>[]) ?_ ?_
 ·refine aV<|aA Z<|aB (iY Z (aE.fact 2 Z) Z) Z<|aA Z<|aL<|aS<|dU (fO U g e j) (λa G=>[(2,s),(3,vP k),(19,q),(20,vI (List.length e:Int)),(21,vI (a))]) (λa G=>[bU k [o,p] 29]) (0:Int) () h SF (a_.refl _) ?_;intro D a G h;refine aV<|cM Z<|aL<|aJ ?_;refine eX h Z (λh=>?_) λh=>?_
  ·refine cK<|aJ<|dR (λm=>lD a (bJ (fO U g e j) D) m=some r) (λm t=>[(2,s),(3,vP k),(19,q),(20,vI (List.length e:Int)),(21,vI (a))]) (λm t=>[bU k [o,p] 29]) ?_ ?_
   ·refine aS<|aV<|aA Z<|cX h λd h=>aB (cA Z Z (aE.fact 2 Z) Z Z d) Z<|aB (cF Z (aE.fact 2 Z) Z Z d) Z<|aD Z<|aD Z<|aL<|aJ<|aV<|aA Z<|aB (fW Z (aE.el (aE.fact 2 Z) d.1 d.2) Z) Z<|aA Z<|kB (aE.fact 3 Z) Z<|p_ Z<|aL ?_;refine eX h Z (λh=>?_) λh=>?_
    ·refine aV<|aD Z<|aL<|aU<|aI<|bK<|aI<|aI<|bK<|aI ?_;cases h;exact tO Z
    refine cK<|aV<|aA Z<|aB (fW Z (aE.el (aE.fact 2 Z) d.1 d.2) Z) Z<|aA Z<|aL<|aS<|dU (cW g e j a (bJ (fO U g e j) D)) (λb u=>[(2,s),(3,vP k),(7,vI (a)),(19,q),(20,vI (List.length e:Int)),(21,vI (a)),(31,(at' E a).1),(32,vI (List.length (at' e a):Int)),(33,vI (b))]) (λb u=>[bU k [o,p] 29]) (0:Int) () h SF (a_.refl _) ?_;intro B b u h;refine aV<|cM Z<|aL<|aJ ?_;refine eX h Z (λh=>?_) λh=>?_
    ·refine cK<|aJ<|aS<|aV<|aA Z<|cX h λy h=>aB (aY Z Z (aE.el (aE.fact 2 Z) d.1 d.2) Z Z y) Z<|aB (bV Z (aE.el (aE.fact 2 Z) d.1 d.2) Z Z Z dA y) Z<|aD Z<|aD Z<|aL<|aJ ?_;refine JR.start [0,0,3,7,0,31] 5 mixedOrders (by decide +kernel) ?_;refine JR.open (by exact rfl) ?_;refine bH Z<|bH Z<|cX h λA h=>bL Z .nil (lR 3 Z) (aY Z Z (aE.fact 0 Z) Z Z A) aP.z<|bL Z .nil (lR 3 Z) (bV Z (aE.fact 0 Z) Z Z Z dA A) aP.z<|iF Z (lY Z)<|bP 5 Z Z<|aD Z<|aL<|aJ<|dR (λf=>gS e a b (bJ (cW g e j a (bJ (fO U g e j) D)) B) f=some r) (λf v=>[(2,s),(3,vP k),(7,vI (a)),(10,vI (at' (at' e a) b)),(11,vI (f.1)),(12,vI (f.2)),(19,q),(20,vI (List.length e:Int)),(21,vI (a)),(31,(at' E a).1),(32,vI (List.length (at' e a):Int)),(33,vI (b))]) (λf v=>[bU k [o,p] 29]) ?_ ?_
     ·refine aV<|aA Z<|cP Z<|aL ?_;refine eX h Z (λh=>?_) λh=>?_
      ·refine JR.start [0,1,0,7,15,31,63,0,255] 8 mixedOrders (by decide +kernel) ?_;refine JR.open (by exact rfl) ?_;refine dB Z<|jQ 0 Z<|bH Z<|cX h λn h=>bL Z .nil (lR 1 Z) (cA Z Z (aE.fact 0 Z) Z Z n) aP.z<|bL Z .nil (lR 1 Z) (cF Z (aE.fact 0 Z) Z Z n) aP.z<|bL Z .nil (lR 1 Z) (fW Z (aE.el (aE.fact 0 Z) n.1 n.2) Z) aP.z<|iF Z (lA Z Z)<|iF Z (lY Z)<|bP 8 Z Z<|aD Z<|aL ?_;exact gY ((-1:Int),(wI .i64 ((List.length (at' g.2 a):Int) - (1:Int)))) () h SF Z
      refine cK ?_;exact gY ((0:Int),(at' j b)) () h SF Z
     intro f v h;refine aJ<|dR (λi=>gT b (bJ (cW g e j a (bJ (fO U g e j) D)) B) i=some r) (λi w=>[(2,s),(3,vP k),(7,vI (a)),(19,q),(20,vI (List.length e:Int)),(21,vI (a)),(31,(at' E a).1),(32,vI (List.length (at' e a):Int)),(33,vI (b)),(58,vB (i))]) (λi w=>[bU k [o,p] 29]) ?_ ?_
     ·refine aO<|aA Z<|aA Z<|cM Z<|aA Z ?_;refine Dg h Z (λ_ h=>?_) λ_ h=>?_
      ·refine aG Z<|aG Z<|aG Z<|dV Z<|aL ?_;exact gY (true) () h SF Z
      refine cO Z<|cO Z<|aN Z (zA Z Z) Z<|fK Z<|aL ?_;exact gY (decide (f.2<(at' (at' e a) b))) () h SF Z
     intro i w h;refine Ai h Z (λ_ h=>?_) λ_ h=>?_
     ·refine aV<|aD Z<|aL<|aU<|bK<|aI<|aI<|bK<|bK<|aI<|aI<|bK<|aI ?_;cases h;exact tO Z
     refine dL<|mI<|aO<|cJ Z<|aA Z<|aL ?_;exact xY (wI .i64 (b+(1:Int))) () h SF Z
    refine rA<|eM<|eM<|xN<|mI ?_;exact gY () (()) h SF Z
   intro m t h;unfold lD at h;refine aO<|cJ Z<|aA Z<|aL ?_;exact xY (wI .i64 (a+(1:Int))) () h SF Z
  refine fC ?_;exact cH () (()) h SF .nil (aF.refl _ _)
 intro C F h;unfold rV at h;refine aV<|aD Z<|aL<|aU ?_;cases h;exact kH Z
def iD  (a:Bool):Option (Bool):=
 some (a)
def d_ (U:Nat) (a:cQ) (c:bG):Option (Bool):=
 Option.bind (Bq U ((a.1,a.2))) λd=>(if d=true then(Option.bind (dQ U ((a.1,a.2)) c ([(List.length a.1:Int),(-1:Int),(1:Int),(1:Int),(3:Int),(1:Int)])) λb=>(iD  (b)))else(iD  (false)))
theorem Wl:aW Tryz.prog 34:=Tryz.call34
theorem xS (U:Nat) {b:cQ} {o:bG} (g:Value)  (i:Value)  (m:lX)  (j:Value)  (p:sH) (r:Bool) (h:d_ U b o=some r):
  aX Tryz.prog 34 #[Value.agg #[g,i],j] [Sl bN g b.1,S2 bD i m b.2,S2 bN j p o] (λx:Unit=>vB (r)) (λx l=>l) (λ_ l=>l):=by
 refine aX.of Tryz.func34 Z Tryz.ntmps34 Z λc=>?_;refine aV<|aH (aM.box (cs:=[g,i]) Z Z) Z λv=>aD Z<|aL<|aJ<|dR (λd=>iD  d=some r) (λd n=>[(4,vB (d))]) (λd n=>[]) ?_ ?_
 ·refine aO<|eT 0 Z<|fH h λq t h=>aH (aM.callQ acJ (PQ U g i m q t) Z (pO [0,1] Z)) Z λw=>aA Z ?_;refine wA (by exact rfl) (by exact rfl) (λa=>?_) (λa=>?_)
  ·have h:=Lz a h;refine aN Z (i_ 0 Z Z Z Z) Z<|cO Z<|aN Z (dO Z Z Z Z Z) Z<|aN Z (eW 0 Z Z Z Z Z) Z<|aN Z (fW Z (aE.fact 0 Z) Z) Z<|qB Z (bW (e:=cC) ([(List.length b.1:Int),(-1:Int),(1:Int),(1:Int),(3:Int),(1:Int)]) [(0,vI (List.length b.1:Int)),(1,vI (-1:Int)),(2,vI (1:Int)),(3,vI (1:Int)),(4,vI (3:Int)),(5,vI (1:Int))] Z Z Z Z (Xc (vI (List.length b.1:Int)) (vI (-1:Int)) (vI (1:Int)) (vI (1:Int)) (vI (3:Int)) (vI (1:Int)) Z Z Z Z Z Z) Z Z Z) Z λs=>fH h λf k h=>qB Z (aM.callQ Wo (Ab U g i m j p s f k) Z (aF.cons (aE.fact 0 Z) (aF.cons (aE.fact 1 Z) (aF.cons (aE.fact 2 Z) (aF.cons (bB (aE.res 0 Z) dM) .nil))))) Z λu=>dV Z<|aD Z<|aL ?_;exact cH (f) () h SF .nil (aF.refl _ _)
  have h:=Hn a h;refine aG Z<|aG Z<|aG Z<|aG Z<|aG Z<|aG Z<|aG Z<|fK Z<|aD Z<|aL ?_;exact cH (false) () h SF .nil (aF.refl _ _)
 intro d n h;unfold iD at h;refine aU ?_;cases h;exact kH Z
def Hr (U:Nat) (a:cQ):Option (Bool):=
 Option.bind (fJ U ((a.1,a.2))) λb=>(some (b))
theorem ada:aW Tryz.prog 85:=Tryz.call85
theorem Va (U:Nat) {d:cQ} (a:Value)  (b:Value)  (e:lX) (r:Bool) (h:Hr U d=some r):
  aX Tryz.prog 85 #[Value.agg #[a,b]] [Sl bN a d.1,S2 bD b e d.2] (λx:Unit=>vB (r)) (λx l=>l) (λ_ l=>l):=by
 refine aX.of Tryz.func85 Z Tryz.ntmps85 Z λc=>?_;refine aV<|aH (aM.box (cs:=[a,b]) Z Z) Z λi=>aD Z<|aL<|aV<|eT 0 Z<|fH h λf g h=>aH (aM.callQ Wp (Bv U a b e f g) Z (pO [0,1] Z)) Z λj=>aD Z<|aL<|aU ?_;cases h;exact tO Z
def lE  (a:Bool):Option (Bool):=
 some (a)
def oZ (U:Nat) (a:cQ) (c:bG):Option (Bool):=
 Option.bind (Hr U ((a.1,a.2))) λd=>(if d=true then(Option.bind (dQ U ((a.1,a.2)) c ([(List.length a.1:Int),(-1:Int)])) λb=>(lE  (b)))else(lE  (false)))
theorem acO:aW Tryz.prog 57:=Tryz.call57
theorem EF (U:Nat) {b:cQ} {o:bG} (g:Value)  (i:Value)  (m:lX)  (j:Value)  (p:sH) (r:Bool) (h:oZ U b o=some r):
  aX Tryz.prog 57 #[Value.agg #[g,i],j] [Sl bN g b.1,S2 bD i m b.2,S2 bN j p o] (λx:Unit=>vB (r)) (λx l=>l) (λ_ l=>l):=by
 refine aX.of Tryz.func57 Z Tryz.ntmps57 Z λc=>?_;refine aV<|aH (aM.box (cs:=[g,i]) Z Z) Z λv=>aD Z<|aL<|aJ<|dR (λd=>lE  d=some r) (λd n=>[(4,vB (d))]) (λd n=>[]) ?_ ?_
 ·refine aO<|eT 0 Z<|fH h λq t h=>aH (aM.callQ ada (Va U g i m q t) Z (pO [0,1] Z)) Z λw=>aA Z ?_;refine wA (by exact rfl) (by exact rfl) (λa=>?_) (λa=>?_)
  ·have h:=Lz a h;refine aN Z (i_ 0 Z Z Z Z) Z<|cO Z<|aN Z (dO Z Z Z Z Z) Z<|aN Z (eW 0 Z Z Z Z Z) Z<|aN Z (fW Z (aE.fact 0 Z) Z) Z<|qB Z (bW (e:=cC) ([(List.length b.1:Int),(-1:Int)]) [(0,vI (List.length b.1:Int)),(1,vI (-1:Int))] Z Z Z Z (JQ (vI (List.length b.1:Int)) (vI (-1:Int)) Z Z) Z Z Z) Z λs=>fH h λf k h=>qB Z (aM.callQ Wo (Ab U g i m j p s f k) Z (aF.cons (aE.fact 0 Z) (aF.cons (aE.fact 1 Z) (aF.cons (aE.fact 2 Z) (aF.cons (bB (aE.res 0 Z) dM) .nil))))) Z λu=>dV Z<|aD Z<|aL ?_;exact cH (f) () h SF .nil (aF.refl _ _)
  have h:=Hn a h;refine aG Z<|aG Z<|aG Z<|aG Z<|aG Z<|aG Z<|aG Z<|fK Z<|aD Z<|aL ?_;exact cH (false) () h SF .nil (aF.refl _ _)
 intro d n h;unfold lE at h;refine aU ?_;cases h;exact kH Z
def mS (U:Nat) (a:cQ) (c:Int) (b:Bool):Option aR:=
 if b=true then(some ([]:aR))else(Option.bind (jS U ((a.1,a.2)) c) λd=>(some (d)))
def oH (U:Nat) (a:cQ) (b:Int):Option aR:=
 Option.bind (g_ U ((a.1,a.2))) λc=>(if(!c)=true then(mS U a b (true))else(if b<(0:Int)then(mS U a b (true))else(mS U a b (decide ((List.length a.2:Int)<=b)))))
theorem acP:aW Tryz.prog 58:=Tryz.call58
theorem GE (U:Nat) {f:cQ} {g:Int} (b:Value)  (d:Value)  (j:lX) (r:aR) (h:oH U f g=some r):
  aX Tryz.prog 58 #[Value.agg #[b,d],vI (g)] [Sl bN b f.1,S2 bD d j f.2] (λx:Value=>x) (λx l=>Ar cC x r::l) (λ_ l=>l):=by
 refine aX.of Tryz.func58 Z Tryz.ntmps58 Z λc=>?_;refine aV<|aH (aM.box (cs:=[b,d]) Z Z) Z λk=>aD Z<|aL<|aJ<|aJ<|dR (λe=>mS U f g e=some r) (λe m=>[(1,vI (g)),(2,vP k),(18,vB (e))]) (λe m=>[bU k [b,d] 29]) ?_ ?_
 ·refine aO<|eT 0 Z<|fH h λo i h=>aH (aM.callQ ME (yT U b d j o i) Z (pO [0,1] Z)) Z λq=>aB (nR Z) Z<|aA Z ?_;refine wA (by exact rfl) (by exact rfl) (λa=>?_) (λa=>?_)
  ·have h:=Lz a h;refine aG Z<|aG Z<|dV Z<|aA Z<|aG Z<|aG Z<|aG Z<|aG Z<|aG Z<|dV Z<|aL ?_;exact gY (true) () h SF Z
  have h:=Hn a h;refine cO Z<|aN Z (EK Z Z) Z<|fK Z<|aA Z ?_;refine Dg h Z (λ_ h=>?_) λ_ h=>?_
  ·refine aG Z<|aG Z<|aG Z<|aG Z<|aG Z<|dV Z<|aL ?_;exact gY (true) () h SF Z
  refine cO Z<|aN Z (dO Z Z Z Z Z) Z<|aN Z (eW 0 Z Z Z Z Z) Z<|aN Z (iY Z (aE.fact 1 Z) Z) Z<|aN Z (Do Z Z) Z<|fK Z<|aL ?_;exact gY (decide ((List.length f.2:Int)<=g)) () h SF Z
 intro e m h;refine Ai h Z (λ_ h=>?_) λ_ h=>?_
 ·refine aV<|aD Z<|aL<|aU<|aI<|iS (gJ cC) ?_;cases h;exact iB (k_) Z Z (RV.tmp Z) (a_.ix [0] Z Z) aF.nil
 refine cK<|aV<|eT 0 Z<|aA Z<|fH h λn p h=>aH (aM.callQ Wq (DY U b d j n p) Z (pO [0,1] Z)) Z λs=>aD Z<|aL<|aU ?_;cases h;exact iB (s) Z Z (RV.tmp Z) (a_.ix [0] Z Z) aF.nil
def yM (U:Nat) (b:eZ) (a:aR) (c:Int):Option (Bool):=
 ck (0<=b.1∧b.1<(List.length a:Int)) (ck (0<=c∧c<(List.length a:Int)) (some (decide ((at' a b.1)=(wI .i64 ((at' a c) - (1:Int)))))))
theorem adb:aW Tryz.prog 88:=Tryz.call88
theorem KV (U:Nat) {d:eZ} {g:aR} {i:Int} (a:Nat)  (j:Value)  (b:Nat) (r:Bool) (h:yM U d g i=some r):
  aX Tryz.prog 88 #[Value.agg #[vI (d.1),vI (d.2)],vP a,vP b] [bU a [j] 22,Sl bN j g,bU b [vI (i)] 3] (λx:Unit=>vB (r)) (λx l=>l) (λ_ l=>l):=by
 refine aX.of Tryz.func88 Z Tryz.ntmps88 Z λc=>?_;refine aV<|aH (aM.box (cs:=[vI (d.1),vI (d.2)]) Z Z) Z λk=>aD Z<|aL<|aJ ?_;refine JR.start [0,0,2,7,15,0,0,96,224,480,1023,2047] 10 mixedOrders (by decide +kernel) ?_;refine JR.open (by exact rfl) ?_;refine bL Z .nil (lR 0 Z) (dH Z (aE.fact 0 Z) Z Z Z) aP.z<|dB Z<|jQ 0 Z<|cX h λe h=>bL Z .nil (lR 1 Z) (aY Z Z (aE.fact 0 Z) Z Z e) aP.z<|bL Z .nil (lR 1 Z) (bV Z (aE.fact 0 Z) Z Z Z dA e) aP.z<|bL Z .nil (lR 0 Z) (dH Z (aE.fact 0 Z) Z Z Z) aP.z<|bL Z .nil (lR 2 Z) (dH Z (aE.fact 0 Z) Z Z Z) aP.z<|cX h λf h=>bL Z .nil (lR 1 Z) (aY Z Z (aE.fact 0 Z) Z Z f) aP.z<|bL Z .nil (lR 1 Z) (bV Z (aE.fact 0 Z) Z Z Z dA f) aP.z<|iF Z (lA Z Z)<|bP 10 Z Z<|cP Z<|aD Z<|aL<|aU ?_;cases h;exact tO Z
def zV  (a:Unit):Option (Bool):=
 some (true)
def uT (c:aR) (d:aR) (a:Int) (b:(Int)->Option (Bool)):Option (Bool):=
 if a<(List.length c:Int)then(ck (0<=a∧a<(List.length c:Int)) (ck (0<=a∧a<(List.length d:Int)) (if(at' c a)≠(at' d a)then(some (false))else(b (wI .i64 (a+(1:Int)))))))else(zV  (()))
def wT (U:Nat) (a:aR) (b:aR):Option (Bool):=
 if(List.length a:Int)≠(List.length b:Int)then(some (false))else(bJ (uT a b) U (0:Int))
theorem adc:aW Tryz.prog 89:=Tryz.call89
theorem KB (U:Nat) {f:aR} {g:aR} (i:Value)  (j:Value) (r:Bool) (h:wT U f g=some r):
  aX Tryz.prog 89 #[i,j] [Sl bN i f,Sl bN j g] (λx:Unit=>vB (r)) (λx l=>l) (λ_ l=>l):=by
 refine aX.of Tryz.func89 Z Tryz.ntmps89 Z λc=>?_;refine aV<|aD Z<|aL<|aJ<|aV<|aA Z<|kB (aE.fact 0 Z) Z<|aA Z<|kB (aE.fact 1 Z) Z<|p_ Z<|aL ?_;refine eX h Z (λh=>?_) λh=>?_
 ·refine aV<|aD Z<|aL<|aU<|aI ?_;cases h;exact kH Z
 refine cK<|aJ<|dR (λd=>zV  d=some r) (λd k=>[]) (λd k=>[]) ?_ ?_
 ·refine aV<|aA Z<|kB (aE.fact 0 Z) Z<|aA Z<|aL<|aS<|dU (uT f g) (λe m=>[(0,i),(1,j),(12,vI (List.length f:Int)),(13,vI (e))]) (λe m=>[]) (0:Int) () h SF (a_.refl _) ?_;intro n e m h;refine aV<|cM Z<|aL<|aJ ?_;refine eX h Z (λh=>?_) λh=>?_
  ·refine cK<|aJ<|aS<|aV<|aA Z<|aD Z<|aL<|aJ ?_;refine JR.start [0,0,3,7,0,0,48,112,255] 8 mixedOrders (by decide +kernel) ?_;refine JR.open (by exact rfl) ?_;refine bH Z<|bH Z<|cX h λa h=>bL Z .nil (lR 0 Z) (aY Z Z (aE.fact 0 Z) Z Z a) aP.z<|bL Z .nil (lR 0 Z) (bV Z (aE.fact 0 Z) Z Z Z dA a) aP.z<|bH Z<|bH Z<|cX h λb h=>bL Z .nil (lR 1 Z) (aY Z Z (aE.fact 0 Z) Z Z b) aP.z<|bL Z .nil (lR 1 Z) (bV Z (aE.fact 0 Z) Z Z Z dA b) aP.z<|bP 8 Z Z<|p_ Z<|aL ?_;refine eX h Z (λh=>?_) λh=>?_
   ·refine aV<|aD Z<|aL<|aU<|bK<|aI<|aI<|bK<|aI ?_;cases h;exact kH Z
   refine dL<|mI<|aO<|cJ Z<|aA Z<|aL ?_;exact xY (wI .i64 (e+(1:Int))) () h SF Z
  refine fC ?_;exact gY () (()) h SF Z
 intro d k h;unfold zV at h;refine aV<|aD Z<|aL<|aU ?_;cases h;exact kH Z
def wC (U:Nat) (a:Int) (c:aR) (e:aR) (d:Int):Option (Bool):=
 ck (0<=a∧a<(List.length c:Int)) (Option.bind (wT U e ([(at' c a),d])) λb=>(some (b)))
def Ch (U:Nat) (b:Int) (c:aR) (d:aR) (a:Unit):Option (Bool):=
 wC U b c d (-1:Int)
def sK (U:Nat) (d:cQ) (b:Int) (e:aR) (g:aR) (a:Int) (c:(Int)->Option (Bool)):Option (Bool):=
 if a<(List.length (at' d.2 b):Int)then(ck (0<=a∧a<(List.length (at' d.2 b):Int)) (Option.bind (yM U ((((at' (at' d.2 b) a).1),((at' (at' d.2 b) a).2))) e b) λf=>(if f=true then(wC U b e g (a))else(c (wI .i64 (a+(1:Int)))))))else(Ch U b e g (()))
def vN (U:Nat) (b:cQ) (a:Int) (c:aR) (d:aR):Option (Bool):=
 ck (0<=a∧a<(List.length b.2:Int)) (bJ (sK U b a c d) U (0:Int))
theorem acQ:aW Tryz.prog 59:=Tryz.call59
theorem PL (U:Nat) {f:cQ} {b:Int} {j:aR} {o:aR} (p:Value)  (q:Value)  (F:lX)  (n:Value)  (v:Value) (r:Bool) (h:vN U f b j o=some r):
  aX Tryz.prog 59 #[Value.agg #[p,q],vI (b),n,v] [Sl bN p f.1,S2 bD q F f.2,Sl bN n j,Sl bN v o] (λx:Unit=>vB (r)) (λx l=>l) (λ_ l=>l):=by
 refine aX.of Tryz.func59 Z Tryz.ntmps59 Z λc=>?_;refine aV<|aH (aM.box (cs:=[p,q]) Z Z) Z λN=>aH (aM.box (cs:=[vI (b)]) Z Z) Z λk=>bZ (Know.one ((aE.fact 2 Z))) λy=>?_;refine aH (aM.box (cs:=[n]) Z (by rw[fS y])) Z λm=>?_;refine aD Z<|aL<|aV<|eT 2 Z<|dC 1 Z<|aB (xX (cs:=[.tmp 6,.tmp 5]) (vs:=[vP m,vP k]) Z) Z<|By (A:=Int) (B:=Unit) (vs:=[Value.agg #[p,q],vI (b),Value.func (.func 88) #[] #[vP m,vP k]]) (λi=>wC U b j o i=some r) (λi w=>vI (i)) (λi w=>[bU m [n] 22,bU k [vI (b)] 3]) (λi w=>[Sl bN p f.1,S2 bD q F f.2,Sl bN n j,Sl bN v o]) (tQ.fn (show aW Tryz.prog 87 from Tryz.call87) Z) Tryz.func87 Z Tryz.ntmps87 Z Z ?_ ?_
 ·refine aV<|aH (aM.box (cs:=[p,q]) Z Z) Z λH=>aD Z<|aL<|aJ<|dR (λg=>Ch U b j o g=some r) (λg s=>[]) (λg s=>[bU m [n] 22,bU k [vI (b)] 3]) ?_ ?_
  ·refine aV<|bS Z<|dC 0 Z<|aA Z<|cX h λd h=>aB (cA Z Z (aE.fact 1 Z) Z Z d) Z<|aB (cF Z (aE.fact 1 Z) Z Z d) Z<|aB (fW Z (aE.el (aE.fact 1 Z) d.1 d.2) Z) Z<|aA Z<|aL<|aS<|dU (sK U f b j o) (λa t=>[(2,Value.func (.func 88) #[] #[vP m,vP k]),(13,(at' F b).1),(14,vI (List.length (at' f.2 b):Int)),(15,vI (a))]) (λa t=>[bU m [n] 22,bU k [vI (b)] 3]) (0:Int) () h SF (a_.ix [1,2] Z Z) ?_;intro J a t h;refine aV<|cM Z<|aL<|aJ ?_;refine eX h Z (λh=>?_) λh=>?_
   ·refine cK<|aJ<|aS<|aV<|aA Z<|cX h λu h=>aB (aY Z Z (aE.el (aE.fact 1 Z) d.1 d.2) Z Z u) Z<|aB (iZ (cs:=[vI ((at' (at' f.2 b) a).1),vI ((at' (at' f.2 b) a).2)]) Z (aE.el (aE.fact 1 Z) d.1 d.2) bQ Z Z Z Z u) Z<|aH (aM.alloc (cs:=Vd) Z Z) Z λI=>aD Z<|bT 0 (vs:=[vI ((at' (at' f.2 b) a).1),vI ((at' (at' f.2 b) a).2)]) Z Z Z Z Z Z<|aL<|aV<|aA Z<|eT 0 Z<|fH h λC E h=>aH (vH (vs:=[Value.agg #[vI ((at' (at' f.2 b) a).1),vI ((at' (at' f.2 b) a).2)]]) (cs:=[vP m,vP k]) adb Z (KV U m n k C E) Z (aF.cons (aE.res 1 Z) (aF.cons (aE.fact 2 Z) (aF.cons (aE.res 2 Z) .nil))) (λ_ _=>rfl)) Z λM=>aL ?_;refine Ai h Z (λ_ h=>?_) λ_ h=>?_
    ·refine aV<|aA Z<|aD Z<|aL<|aU<|bK<|aI<|aI<|bK<|aI ?_;exact u_ (a) () h (.inl Z) (Ha.r1 Z (RV.tmp Z)) Z (a_.ix [1,2] Z Z) (aF.refl _ _)
    refine dL<|mI<|aO<|cJ Z<|aA Z<|aL ?_;exact mL (wI .i64 (a+(1:Int))) () h SF (a_.ix [1,2] Z Z) (aF.refl _ _)
   refine fC ?_;exact gY () (()) h SF Z
  intro g s h;unfold Ch at h;refine aV<|aD Z<|aL<|aU ?_;exact u_ (-1:Int) () h (.inl Z) (Ha.r1 Z (RV.tmp Z)) Z (a_.refl _) (aF.refl _ _)
 intro i w h;refine aD Z<|aL<|aV<|aA Z<|dC 0 Z<|dC 1 Z<|cX h λG h=>aB (aY Z Z (aE.fact 2 Z) Z Z G) Z<|aB (bV Z (aE.fact 2 Z) Z Z Z dA G) Z<|aA Z<|aH (bW (e:=cC) ([(at' j b),i]) [(0,vI (at' j b)),(1,vI (i))] Z Z Z Z (JQ (vI (at' j b)) (vI (i)) Z Z) Z Z Z) Z λK=>fH h λz D h=>aH (aM.callQ adc (KB U v K z D) Z (aF.cons (aE.fact 3 Z) (aF.cons (bB (aE.res 0 Z) dM) .nil))) Z λL=>aD Z<|aL<|aU ?_;cases h;exact tO Z
def Cg  (a:Unit):Option (Bool):=
 some (true)
def Ah (U:Nat) (e:cQ) (c:bG) (f:aR) (a:Int) (b:(Int)->Option (Bool)):Option (Bool):=
 if a<(List.length c:Int)then(ck (0<=a∧a<(List.length c:Int)) (Option.bind (vN U ((e.1,e.2)) a f (at' c a)) λd=>(if(!d)=true then(some (false))else(b (wI .i64 (a+(1:Int)))))))else(Cg  (()))
def vM (U:Nat) (a:cQ) (b:bG):Option (Bool):=
 Option.bind (oZ U ((a.1,a.2)) b) λc=>(if(!c)=true then(some (false))else(Option.bind (oH U ((a.1,a.2)) (0:Int)) λd=>(bJ (Ah U a b d) U (0:Int))))
theorem acI:aW Tryz.prog 35:=Tryz.call35
theorem PK (U:Nat) {j:cQ} {k:bG} (d:Value)  (e:Value)  (n:lX)  (m:Value)  (t:sH) (r:Bool) (h:vM U j k=some r):
  aX Tryz.prog 35 #[Value.agg #[d,e],m] [Sl bN d j.1,S2 bD e n j.2,S2 bN m t k] (λx:Unit=>vB (r)) (λx l=>l) (λ_ l=>l):=by
 refine aX.of Tryz.func35 Z Tryz.ntmps35 Z λc=>?_;refine aV<|aH (aM.box (cs:=[d,e]) Z Z) Z λu=>aD Z<|aL<|aJ<|aV<|eT 0 Z<|aA Z<|fH h λw y h=>aH (aM.callQ acO (EF U d e n m t w y) Z (pO [0,1,2] Z)) Z λB=>aB (nR Z) Z<|aL ?_;refine Ai h Z (λ_ h=>?_) λ_ h=>?_
 ·refine aV<|aD Z<|aL<|aU<|aI ?_;cases h;exact tO Z
 refine cK<|aV<|eT 0 Z<|fH h λp z h=>aH (aM.callQ acP (GE U d e n p z) Z (pO [0,1] Z)) Z λs=>aD Z<|aL<|aJ<|dR (λi=>Cg  i=some r) (λi f=>[]) (λi f=>[]) ?_ ?_
 ·refine aV<|aA Z<|aB (iY Z (aE.fact 2 Z) Z) Z<|aA Z<|aL<|aS<|dU (Ah U j k p) (λa g=>[(2,vP u),(5,s),(14,m),(15,vI (List.length k:Int)),(16,vI (a))]) (λa g=>[Ar cC s p,bU u [d,e] 29]) (0:Int) () h SF (a_.refl _) ?_;intro v a g h;refine aV<|cM Z<|aL<|aJ ?_;refine eX h Z (λh=>?_) λh=>?_
  ·refine cK<|aJ<|aS<|aV<|aA Z<|cX h λb h=>aB (cA Z Z (aE.fact 2 Z) Z Z b) Z<|aB (cF Z (aE.fact 2 Z) Z Z b) Z<|aD Z<|aD Z<|aL<|aV<|eT 1 Z<|aA Z<|aA Z<|aA Z<|fH h λo q h=>aH (aM.callQ acQ (PL U d e n s ((at' t a).1) o q) Z (aF.cons (aE.fact 0 Z) (aF.cons (aE.fact 1 Z) (aF.cons (bB (aE.res 0 Z) dM) (aF.cons (aE.el (aE.fact 2 Z) b.1 b.2) .nil))))) Z λA=>aB (nR Z) Z<|aL ?_;refine Ai h Z (λ_ h=>?_) λ_ h=>?_
   ·refine aV<|aD Z<|aL<|aU<|bK<|aI<|aI<|bK<|aI ?_;cases h;exact tO Z
   refine dL<|mI<|aO<|cJ Z<|aA Z<|aL ?_;exact xY (wI .i64 (a+(1:Int))) () h SF Z
  refine fC ?_;exact cH () (()) h SF .nil (aF.refl _ _)
 intro i f h;unfold Cg at h;refine aV<|aD Z<|aL<|aU ?_;cases h;exact kH Z
def AO  (a:Unit):Option (Bool):=
 some (true)
def pW (a:Int) (c:(Int)->Option (Bool)) (b:Bool):Option (Bool):=
 if b=true then(some (false))else(c (wI .i64 (a+(1:Int))))
def jW (b:bG) (a:Int) (c:(Int)->Option (Bool)):Option (Bool):=
 if a<(List.length b:Int)then(ck (0<=a∧a<(List.length b:Int)) (ck (0<=(2:Int)∧(2:Int)<(List.length (at' b a):Int)) (if(at' (at' b a) (2:Int))≠(0:Int)then(pW a c (true))else(ck (0<=(5:Int)∧(5:Int)<(List.length (at' b a):Int)) (if(at' (at' b a) (5:Int))≠(0:Int)then(pW a c (true))else(ck (0<=(3:Int)∧(3:Int)<(List.length (at' b a):Int)) (ck (0<=(0:Int)∧(0:Int)<(List.length b:Int)) (ck (0<=(3:Int)∧(3:Int)<(List.length (at' b (0:Int)):Int)) (pW a c (decide ((at' (at' b a) (3:Int))≠(at' (at' b (0:Int)) (3:Int)))))))))))))else(AO  (()))
def pV (U:Nat) (b:bG) (a:Bool):Option (Bool):=
 if a=true then(some (false))else(bJ (jW b) U (0:Int))
def DL (U:Nat) (c:cQ) (d:bG) (a:bG):Option (Bool):=
 Option.bind (vM U ((c.1,c.2)) a) λb=>(pV U d ((!b)))
def xD (U:Nat) (b:cQ) (c:bG) (a:bG):Option (Bool):=
 DL U b c (a)
def sG (U:Nat) (d:cQ) (c:bG) (a:Int×bG) (b:(Int×bG)->Option (Bool)):Option (Bool):=
 if a.1<(List.length c:Int)then(ck (0<=a.1∧a.1<(List.length c:Int)) (ck (0<=(0:Int)∧(0:Int)<=(2:Int)∧(2:Int)<=(2:Int)∧(2:Int)<=(List.length (at' c a.1):Int)) (ck (0<=a.1∧a.1<(List.length a.2:Int)) (b ((wI .i64 (a.1+(1:Int))),(List.set a.2 (Int.toNat a.1) (List.drop (Int.toNat (0:Int)) (List.take (Int.toNat (2:Int)) (at' c a.1)))))))))else(xD U d c (a.2))
def hZ (U:Nat) (b:cQ) (a:bG):Option (Bool):=
 Option.bind (d_ U ((b.1,b.2)) a) λc=>(if(!c)=true then(pV U a (true))else(ck (0<=(List.length a:Int)∧(List.length a:Int)<=1099511627) (bJ (sG U b a) U ((0:Int),(List.replicate (Int.toNat (List.length a:Int)) ([]:aR))))))
theorem QP:aW Tryz.prog 14:=Tryz.call14
theorem BI (U:Nat) {p0:cQ} {p1:bG} (C:Value)  (D:Value)  (F:lX)  (s:Value)  (G:sH) (r:Bool) (h:hZ U p0 p1=some r):
  aX Tryz.prog 14 #[Value.agg #[C,D],s] [Sl bN C p0.1,S2 bD D F p0.2,S2 bN s G p1] (λx:Unit=>vB (r)) (λx l=>l) (λ_ l=>l):=by
 refine aX.of Tryz.func14 Z Tryz.ntmps14 Z λc=>?_;refine aV<|aH (aM.box (cs:=[C,D]) Z Z) Z λS=>aD Z<|aL<|aJ<|aJ<|dR (λH=>pV U p1 H=some r) (λH b4=>[(1,s),(17,vB (H))]) (λH b4=>[]) ?_ ?_
 ·refine JR.start [0,0,3,7,15,31,31,95,255,511,1023] 8 mixedOrders (by decide +kernel) ?_;refine JR.open (by exact rfl) ?_;refine pY 0 Z<|bH Z<|fH h λW X h=>JR.loud Z Z Z (aM.callQ Wl (xS U C D F s G W X) Z (pO [0,1,2] Z)) Z (λaa=>(v_ [] Z)) λaa=>iF Z (nR Z)<|iF Z (gQ Z) ?_;refine JR.guard (by exact rfl) (by exact rfl) (by exact rfl) (λw=>?_) (λw=>?_)
  ·have h:=Lz w h;refine bY Z Z Z Z<|bY Z Z Z Z<|bY Z Z Z Z<|bP 8 Z Z<|aG Z<|aG Z<|dV Z<|aL ?_;exact cH (true) () h SF .nil (aF.refl _ _)
  have h:=Hn w h;refine iK Z (a_.cons 0 Z .nil) .nil (i_ 0 Z Z Z Z) (hkI Z)<|iK Z .nil .nil (gQ Z) (hkI Z)<|Vz (A:=bG) (B:=KH) (vs:=[s]) (λn=>DL U p0 p1 n=some r) (λn d=>d.1) (λn d=>[Ar cY.raw d.1 d.2,bU S [C,D] 29]) (λn d=>[Rlf bN d.2 n,Sl bN C p0.1,S2 bD D F p0.2,S2 bN s G p1]) Z Z Z Z (tQ.fn (show aW Tryz.prog 36 from Tryz.call36) Z) Tryz.func36 Z Tryz.ntmps36 Z Z (λ_ _=>(v_ [([1],[])] Z)) ?_ ?_
  ·refine aV<|aD Z<|aL<|aV<|aA Z<|aB (iY Z (aE.fact 2 Z) Z) Z<|cX h λT h=>Zi bN (Int.toNat (List.length p1:Int))<|aH (rR (e:=cY.raw) (k_) Z Z Z Z T Z Z Z) Z λy=>aD Z<|aL<|aJ<|Ca (B:=fV) (λo=>xD U p0 p1 o=some r) (λo p=>[(3,y)]) (λo p=>[Ar cY.raw y p,bU S [C,D] 29]) (λo p=>[Rlf bN p o,Sl bN C p0.1,S2 bD D F p0.2,S2 bN s G p1]) ?_ ?_
   ·refine aV<|aA Z<|aB (iY Z (aE.fact 3 Z) Z) Z<|aA Z<|aL<|aS<|FK (B:=fV) (sG U p0 p1) (λb f=>[(3,y),(9,s),(10,vI (List.length p1:Int)),(11,vI (b.1))]) (λb f=>[Ar cY.raw y f,bU S [C,D] 29]) (λb f=>[Rlf bN f b.2,Sl bN C p0.1,S2 bD D F p0.2,S2 bN s G p1]) ((0:Int),(List.replicate (Int.toNat (List.length p1:Int)) ([]:aR))) (List.replicate (Int.toNat (List.length p1:Int)) (k_)) h SF (a_.refl _) (aF.refl _ _) ?_;intro ab b f h;refine aV<|cM Z<|aL<|aJ ?_;refine eX h Z (λh=>?_) λh=>?_
    ·refine cK<|aJ<|aS<|aV<|aA Z<|cX h λg h=>aB (cA Z Z (aE.fact 3 Z) Z Z g) Z<|aB (cF Z (aE.fact 3 Z) Z Z g) Z<|aD Z<|aD Z<|aL<|aO<|aA Z<|aA Z<|aA Z<|cX h λE h=>aB (Ug Z Z Z Z (aE.el (aE.fact 3 Z) g.1 g.2) Z Z E) Z<|cX h λP h=>aB (cA Z Z (Jj (i:=0) (j:=0) Z Z) Z Z P) Z<|bZ (Know.one ((Ji (aE.el (aE.fact 3 Z) g.1 g.2) Z E))) λK=>TV 0 0 P Z Z Z Z K Z<|Zm (k:=Int.toNat b.1) 0 (vs:=f) Z (Ji (aE.el (aE.fact 3 Z) g.1 g.2) Z E)<|eJ<|mI<|aO<|cJ Z<|aA Z<|aL ?_;exact xY ((wI .i64 (b.1+(1:Int))),(List.set b.2 (Int.toNat b.1) (List.drop (Int.toNat (0:Int)) (List.take (Int.toNat (2:Int)) (at' p1 b.1))))) (List.set f (Int.toNat b.1) (sl3 ((at' G b.1).1) (Int.toNat (0:Int)) (Int.toNat (2:Int)) (Int.toNat (2:Int)) 1)) h SF Z
    refine fC ?_;exact gY (b.2) (f) h SF Z
   intro o p h;unfold xD at h;refine aV<|aA Z<|aD Z<|aL<|aU ?_;exact u_ (o) (y,p) h (.inl Z) (Ha.r1 Z (RV.tmp Z)) Z (a_.refl _) (aF.refl _ _)
  intro n d h;refine bP 8 Z Z<|fH h λQ Y h=>qB Z (aM.callQ acI (PK U C D F d.1 (List.zip d.2 n) Q Y) Z (aF.cons (aE.fact 1 Z) (aF.cons (aE.fact 2 Z) (aF.cons (Jj (i:=0) (j:=0) Z Z) .nil)))) Z λac=>aN Z (nR Z) Z<|fK Z<|aL ?_;exact cH ((!Q)) () h SF .nil (pO [1,2,3] Z)
 intro H b4 h;refine Ai h Z (λ_ h=>?_) λ_ h=>?_
 ·refine aV<|aD Z<|aL<|aU<|aI ?_;cases h;exact kH Z
 refine cK<|aJ<|dR (λR=>AO  R=some r) (λR b7=>[]) (λR b7=>[]) ?_ ?_
 ·refine aV<|aA Z<|aB (iY Z (aE.fact 2 Z) Z) Z<|aA Z<|aL<|aS<|dU (jW p1) (λm I=>[(1,s),(18,s),(19,vI (List.length p1:Int)),(20,vI (m))]) (λm I=>[]) (0:Int) () h SF (a_.refl _) ?_;intro V m I h;refine aV<|cM Z<|aL<|aJ ?_;refine eX h Z (λh=>?_) λh=>?_
  ·refine cK<|aJ<|aS<|aV<|cX h λa h=>aB (cA Z Z (aE.fact 2 Z) Z Z a) Z<|aB (cF Z (aE.fact 2 Z) Z Z a) Z<|aD Z<|aL<|aJ<|dR (λt=>pW m (bJ (jW p1) V) t=some r) (λt J=>[(1,s),(18,s),(19,vI (List.length p1:Int)),(20,vI (m)),(44,vB (t))]) (λt J=>[]) ?_ ?_
   ·refine JR.start [0,1,3,7,15,31,63,127,255,511,1023,2047,4095,8191,2047,18431,51199,116735,247807,524287,1048575] 19 mixedOrders (by decide +kernel) ?_;refine JR.open (by exact rfl) ?_;refine bH Z<|cX h λL h=>bL Z .nil (lR 2 Z) (aY Z Z (aE.el (aE.fact 0 Z) a.1 a.2) Z Z L) aP.z<|bL Z .nil (lR 2 Z) (bV Z (aE.el (aE.fact 0 Z) a.1 a.2) Z Z Z dA L) aP.z<|iF Z (Dq Z Z)<|bH Z ?_;refine GW (by exact rfl) (by exact rfl) (by exact rfl) (λu=>?_) (λu=>?_)
    ·have h:=Lz u h;refine bY Z Z Z Z<|bY Z Z Z Z<|bY Z Z Z Z<|bY Z Z Z Z<|iF Z (Sq Z Z)<|bH Z<|bY Z Z Z Z<|bY Z Z Z Z<|bY Z Z Z Z<|bY Z Z Z Z<|bY Z Z Z Z<|bY Z Z Z Z<|bY Z Z Z Z<|bY Z Z Z Z<|bP 19 Z Z<|aG Z<|dV Z<|aL ?_;exact gY (true) () h SF Z
    have h:=ifN u h;refine iK Z .nil .nil (gQ Z) aP.z<|cX h λM h=>iK Z .nil (lR 2 Z) (aY Z Z (aE.el (aE.fact 0 Z) a.1 a.2) Z Z M) aP.z<|iK Z .nil (lR 2 Z) (bV Z (aE.el (aE.fact 0 Z) a.1 a.2) Z Z Z dA M) aP.z<|iK Z .nil .nil (Dq Z Z) aP.z<|iF Z (Sp Z Z)<|bH Z ?_;refine GW (by exact rfl) (by exact rfl) (by exact rfl) (λv=>?_) (λv=>?_)
    ·have h:=Lz v h;refine bY Z Z Z Z<|bY Z Z Z Z<|bY Z Z Z Z<|bY Z Z Z Z<|bY Z Z Z Z<|bY Z Z Z Z<|bY Z Z Z Z<|bY Z Z Z Z<|bP 19 Z Z<|aG Z<|dV Z<|aL ?_;exact gY (true) () h SF Z
    have h:=ifN v h;refine iK Z .nil .nil (gQ Z) aP.z<|cX h λN h=>iK Z .nil (lR 2 Z) (aY Z Z (aE.el (aE.fact 0 Z) a.1 a.2) Z Z N) aP.z<|iK Z .nil (lR 2 Z) (bV Z (aE.el (aE.fact 0 Z) a.1 a.2) Z Z Z dA N) aP.z<|iK Z .nil .nil (gQ Z) aP.z<|cX h λq h=>iK Z .nil (lR 2 Z) (cA Z Z (aE.fact 0 Z) Z Z q) aP.z<|iK Z .nil (lR 2 Z) (cF Z (aE.fact 0 Z) Z Z q) aP.z<|cX h λO h=>iK Z .nil (lR 2 Z) (aY Z Z (aE.el (aE.fact 0 Z) q.1 q.2) Z Z O) aP.z<|iK Z .nil (lR 2 Z) (bV Z (aE.el (aE.fact 0 Z) q.1 q.2) Z Z Z dA O) aP.z<|bP 19 Z Z<|aN Z (Dq Z Z) Z<|fK Z<|aL ?_;exact gY (decide ((at' (at' p1 m) (3:Int))≠(at' (at' p1 (0:Int)) (3:Int)))) () h SF Z
   intro t J h;refine Ai h Z (λ_ h=>?_) λ_ h=>?_
   ·refine aV<|aD Z<|aL<|aU<|bK<|aI<|aI<|bK<|aI ?_;cases h;exact kH Z
   refine dL<|mI<|aO<|cJ Z<|aA Z<|aL ?_;exact xY (wI .i64 (m+(1:Int))) () h SF Z
  refine fC ?_;exact gY () (()) h SF Z
 intro R b7 h;unfold AO at h;refine aV<|aD Z<|aL<|aU ?_;cases h;exact kH Z
end Go.Proofs.YtmdlcmbplnhdnaaGreatDoor
section
set_option maxRecDepth 100000
namespace Go.Gx
open Go Go.Sx Go.Proofs Go.Proofs.YtmdlcmbplnhdnaaGreatDoor
noncomputable section
def agi (a:List GV) (H:GH):OR:=a1 a λb=>ob (QW H b) λp0=>ob (g_ 1000 p0) λr=>Tm r H
def agf (a:List GV) (H:GH):OR:=a2 a λb c=>ob (afU H b) λp0=>ob (dSc .i64 c) λp1=>ob (mW 1000 p0 p1) λr=>RF r H
def abN (a:List GV) (H:GH):OR:=a4 a λb c d e=>ob (WK H b) λp0=>ob (dSc .i64 c) λp1=>ob (dSc .u32 d) λp2=>ob (dSc .u32 e) λp3=>ob (fP 1000 p0 p1 p2 p3) λr=>Tm r H
def agh (a:List GV) (H:GH):OR:=a4 a λb c d e=>ob (WK H b) λp0=>ob (dSc .i64 c) λp1=>ob (dSc .u32 d) λp2=>ob (dSc .u32 e) λp3=>ob (eR 1000 p0 p1 p2 p3) λr=>some (.int .u32 r,H)
def age (a:List GV) (H:GH):OR:=a2 a λb c=>ob (QW H b) λp0=>ob (abJ H c) λp1=>ob (hZ 1000 p0 p1) λr=>Tm r H
def Xg (f:Nat) (a:List GV) (H:GH):Option (GV×GH):=bif Nat.beq f 86 then agi a H else bif Nat.beq f 26 then agf a H else bif Nat.beq f 112 then abN a H else bif Nat.beq f 83 then agh a H else bif Nat.beq f 14 then age a H else none
abbrev gl:Nat->yX:=glb 0 (cellsOf HO xJ)
def gp:GP:=⟨vW,72,Xg,Xf 190⟩
section
variable {T:Nat} {w0:eK (gl T)} {w:World} {ρ:dN} {H H':GH} {g:GV} {us:List GV} {vs:List Value}
theorem aaJ (h:agi us H=some (g,H')) (R:fI w0 ρ H w) (m:oQ ρ us vs):kE Tryz.prog w0 ρ 86 vs w g H':=by
 obtain⟨p,rfl,h⟩:=Sr h;obtain⟨j,c,h⟩:=aC.1 h;obtain⟨r,l,h⟩:=aC.1 h;obtain⟨o,rfl,d⟩:=m.one;obtain⟨e,i,n,rfl,a,b⟩:=Lm R d c;obtain⟨rfl,rfl⟩:=Fu h;exact Cq ME (yT 1000 (p0:=j) e i n r l) R (List.forall_mem_cons.2 ⟨a,List.forall_mem_cons.2 ⟨b,λf k=>absurd k List.not_mem_nil⟩⟩) λρ=> .bool _
theorem aaH (h:agf us H=some (g,H')) (R:fI w0 ρ H w) (i:oQ ρ us vs):kE Tryz.prog w0 ρ 26 vs w g H':=by
 obtain⟨z,A,rfl,h⟩:=Mt h;obtain⟨o,d,h⟩:=aC.1 h;obtain⟨p,e,h⟩:=aC.1 h;obtain⟨r,v,h⟩:=aC.1 h;obtain⟨x,vs,rfl,j,i⟩:=i.of_cons;obtain⟨y,rfl,k⟩:=i.one;obtain⟨l,m,n,rfl,a,b,c⟩:=aao R j d;obtain rfl:=Dy k e;obtain⟨q,s,t,rfl,rfl⟩:=Pf h;exact Rm afX afY q s t Wj (AU 1000 (p0:=o) (p1:=p) l m n r v) R (List.forall_mem_cons.2 ⟨a,List.forall_mem_cons.2 ⟨b,List.forall_mem_cons.2 ⟨c,λf u=>absurd u List.not_mem_nil⟩⟩⟩)
theorem Xs (h:abN us H=some (g,H')) (R:fI w0 ρ H w) (a:oQ ρ us vs):kE Tryz.prog w0 ρ 112 vs w g H':=by
 obtain⟨z,A,B,C,rfl,h⟩:=Mu h;obtain⟨m,b,h⟩:=aC.1 h;obtain⟨n,c,h⟩:=aC.1 h;obtain⟨o,d,h⟩:=aC.1 h;obtain⟨p,e,h⟩:=aC.1 h;obtain⟨r,u,h⟩:=aC.1 h;obtain⟨q,vs,rfl,i,a⟩:=a.of_cons;obtain⟨v,vs,rfl,j,a⟩:=a.of_cons;obtain⟨x,vs,rfl,k,a⟩:=a.of_cons;obtain⟨y,rfl,l⟩:=a.one;have s:=OF R i b;obtain rfl:=Dy j c;obtain rfl:=Dy k d;obtain rfl:=Dy l e;obtain⟨rfl,rfl⟩:=Fu h;exact Cq Sw (xG 1000 (p0:=m) (p1:=n) (p2:=o) (p3:=p) q r u) R (List.forall_mem_cons.2 ⟨s,List.forall_mem_cons.2 ⟨R.glb,λf t=>absurd t List.not_mem_nil⟩⟩) λρ=> .bool _
theorem aaI (h:agh us H=some (g,H')) (R:fI w0 ρ H w) (a:oQ ρ us vs):kE Tryz.prog w0 ρ 83 vs w g H':=by
 obtain⟨z,A,B,C,rfl,h⟩:=Mu h;obtain⟨m,b,h⟩:=aC.1 h;obtain⟨n,c,h⟩:=aC.1 h;obtain⟨o,d,h⟩:=aC.1 h;obtain⟨p,e,h⟩:=aC.1 h;obtain⟨r,u,h⟩:=aC.1 h;obtain⟨q,vs,rfl,i,a⟩:=a.of_cons;obtain⟨v,vs,rfl,j,a⟩:=a.of_cons;obtain⟨x,vs,rfl,k,a⟩:=a.of_cons;obtain⟨y,rfl,l⟩:=a.one;have s:=OF R i b;obtain rfl:=Dy j c;obtain rfl:=Dy k d;obtain rfl:=Dy l e;cases h;exact Cq Wt (xH 1000 (p0:=m) (p1:=n) (p2:=o) (p3:=p) q r u) R (List.forall_mem_cons.2 ⟨s,List.forall_mem_cons.2 ⟨R.glb,λf t=>absurd t List.not_mem_nil⟩⟩) λρ=> .int _ _
theorem aaG (h:age us H=some (g,H')) (R:fI w0 ρ H w) (e:oQ ρ us vs):kE Tryz.prog w0 ρ 14 vs w g H':=by
 obtain⟨x,y,rfl,h⟩:=Mt h;obtain⟨m,c,h⟩:=aC.1 h;obtain⟨n,d,h⟩:=aC.1 h;obtain⟨r,s,h⟩:=aC.1 h;obtain⟨v,vs,rfl,i,e⟩:=e.of_cons;obtain⟨o,rfl,j⟩:=e.one;obtain⟨k,l,t,rfl,a,b⟩:=Lm R i c;obtain⟨u,p⟩:=WI R j d;obtain⟨rfl,rfl⟩:=Fu h;exact Cq QP (BI 1000 (p0:=m) (p1:=n) k l t o u r s) R (List.forall_mem_cons.2 ⟨a,List.forall_mem_cons.2 ⟨b,List.forall_mem_cons.2 ⟨p,λf q=>absurd q List.not_mem_nil⟩⟩⟩) λρ=> .bool _
theorem MV {f:Nat} (h:Xg f us H=some (g,H')) (R:fI w0 ρ H w) (a:oQ ρ us vs):kE Tryz.prog w0 ρ f vs w g H':=by
 unfold Xg at h;cases b:Nat.beq f 86 with
 |true=>rw[b]at h;rw[Nat.eq_of_beq_eq_true b];exact aaJ h R a
 |false=>
 rw[b]at h;cases c:Nat.beq f 26 with
 |true=>rw[c]at h;rw[Nat.eq_of_beq_eq_true c];exact aaH h R a
 |false=>
 rw[c]at h;cases d:Nat.beq f 112 with
 |true=>rw[d]at h;rw[Nat.eq_of_beq_eq_true d];exact Xs h R a
 |false=>
 rw[d]at h;cases e:Nat.beq f 83 with
 |true=>rw[e]at h;rw[Nat.eq_of_beq_eq_true e];exact aaI h R a
 |false=>
 rw[e]at h;cases i:Nat.beq f 14 with
 |true=>rw[i]at h;rw[Nat.eq_of_beq_eq_true i];exact aaG h R a
 |false=>
 rw[i]at h;cases h
end
theorem adz:afW Tryz.prog vW=true:=by kernel_rfl
theorem IX:e_ Tryz.prog vW:=⟨PY,ady adz⟩
theorem aeb {a:yX} (b:eK a):rK Tryz.prog b (Lk vW 98 Tryz.f98):=Wx IX mixedOrders Tryz.func98 Tryz.call98 (by kernel_rfl)
theorem ads (a:Array Value) (w:World) (c:a.size=2):CallsDIn (FR none) 0 Tryz.prog 97 a .returning w λe f g=>∃v,e = .returned v∧f = .returning∧Mk w g:=by
 obtain⟨d,h,b⟩:=XV (r:=EM vW (Lk vW 98 Tryz.f98) (MF Tryz.f97) (evC vW (Lk vW 98 Tryz.f98) (λ_ _ _ _=>none) (Wv Tryz.f97) 0 ⟨[],0,[]⟩ (Gs [])) (MF Tryz.f97).tail ⟨[(aaj Tryz.f97,.inil)],H0⟩) (by kernel_rfl);exact Uo (ch:=Lk vW 98 Tryz.f98) (lp:=λ_ _ _ _=>none) IX mixedOrders aeb HZ Tryz.func97 Z Z Z (by decide +kernel) (λi w=>by simp[execOp,resolve,invoke,builtin]) (by kernel_rfl) (by kernel_rfl) Z (by rw[c];decide +kernel) h b
theorem afZ {i:yX} {a:FuncId->List GV->GH->Option (GV×GH)} (o:∀(b:eK i) {f us H g H'},a f us H=some (g,H')->∀c w d,fI b c H w->oQ c us d->kE Tryz.prog b c f d w g H') (b:eK i):TT Tryz.prog ⟨vW,72,a,Xf 190⟩ HC.fns b:=by
 refine⟨IX,mixedOrders,λh=> ?_,o b,λh c w d H R n=>aaB Tryz.func190 Z Z Z Z h c w d H R n,λR l j k=> ?_⟩
 ·obtain⟨e,m,h⟩:=aC.1 (show ob (Tx _) _=some _ from h);cases h;obtain⟨p,q,r⟩:=Yk m;exact⟨p,q,Pg r⟩
 ·exact adk (tb:=vW) (T1:=3) (T2:=67) (cc:=97) IX Tryz.func72 Tryz.call72 Tryz.call97 Z Z Z (Ss (by kernel_rfl)) (Ss (by kernel_rfl)) (TE Z Z) (TE Z Z) (XH Z Z) (XH Z Z) ads R l j k
theorem Xi {T:Nat} (a:eK (gl T)):TT Tryz.prog gp HC.fns a:=afZ (λa f d H g c h i w e R b=>MV h R b) a
def gp0:GP:=⟨vW,72,λ_ _ _=>none,Xf 190⟩
theorem ajg (a:eK noG):TT Tryz.prog gp0 HC.fns a:=afZ (λa f c H g b h=>by cases h) a
end
end Go.Gx
end
