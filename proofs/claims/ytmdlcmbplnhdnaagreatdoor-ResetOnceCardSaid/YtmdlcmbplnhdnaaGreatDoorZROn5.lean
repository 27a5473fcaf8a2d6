/- Models and proofs. Conditions: none. -/
import Derived.Test.YtmdlcmbplnhdnaaGreatDoorZROn4
import Derived.Test.YtmdlcmbplnhdnaaGreatDoorZROn2
set_option linter.unusedVariables false
set_option linter.unusedSimpArgs false
set_option maxHeartbeats 4000000
set_option maxRecDepth 20000
namespace Go.Gx
open Go Go.Sx
section
variable {P:Program} {gs:xR} {w0:d_ gs} {w:World} {ρ:dG} {H:GH}
theorem BS {f:Nat} {a:List Value} {L:List aX} {V:Value} {g:GV} (c:aT P f) (d:aY P f a.toArray L (λ_:Unit=>V) (λ_ l=>l) (λ_ l=>l)) (R:eQ w0 ρ H w) (b:∀h∈L,h.p w All) (i:∀ρ,Rl ρ g V):jX P w0 ρ f a w g H:=by
 refine .inr ⟨c _ w,(d w All b).mono ?_⟩;rintro e j ⟨_,rfl,t⟩;exact⟨V,ρ,rfl,dG.le_refl _,R.ext' t.old.ext,i _⟩
theorem QG {V W:Type} {e:cO V} {g:V->List GV} {q:cO W} {s:W->List GV} (hg:∀ρ x,n_ ρ (g x) (e.enc x)) (I:∀ρ x,n_ ρ (s x) (q.enc x)) {f:Nat} {S:List Value} {L:List aX} {r:List V×List (List W)} (C:r.1≠[]) (D:r.2≠[]) (h3:∀U∈r.2,U≠[]) (hb:aT P f)
  (hm:aY P f S.toArray L (λx:Value×Value×List Value=>Value.agg #[x.1,x.2.1]) (λx l=>Ar e x.1 r.1::Ar cO.raw x.2.1 x.2.2::kN q x.2.2 r.2::l) (λ_ l=>l)) (R:eQ w0 ρ H w) (hL:∀h∈L,h.p w All):
  jX P w0 ρ f S w (.agg [.sl H.n 0 r.1.length e.sz,.sl (tQ q.sz s r.2 (H.new (.cells (r.1.flatMap g)))).2.n 0 r.2.length 1]) ((tQ q.sz s r.2 (H.new (.cells (r.1.flatMap g)))).2.new (.cells (tQ q.sz s r.2 (H.new (.cells (r.1.flatMap g)))).1)):=by
 refine .inr ⟨hb _ w,(hm w All hL).mono ?_⟩;rintro en A ⟨x,rfl,t⟩;obtain⟨F,O,_⟩:=t.own;have q0:Cy _ A (F 0) x.1 r.1:=O.res 0 _ Z;have q1:Cy cO.raw A (F 1) x.2.1 x.2.2:=O.res 1 _ Z;obtain⟨z,G,q2,Q,q4⟩:(kN q x.2.2 r.2).p A (F 2):=O.res 2 _ Z;have R':=R.ext' t.old.ext;have E:∀i k,F i k->w.heap.size<=k:=λi k c=>by
  rcases(O.rng i k c).1 with h|h
  ·exact h
  exact h.elim
 obtain⟨X,y,R1,K,A1⟩:=GL (B:=λk=>w.heap.size<=k) R' (λa o l C D=>En.start R a o l C D) (λk c=> .inl (Nat.le_trans R.ext.size c)) (E 0) q0 C (Mk (hg ρ) r.1);obtain⟨ad,j,R2,M,A2⟩:=Js I r.2 x.2.2 G _ X _ R1 A1 (λk c=> .inl (Nat.le_trans R.ext.size c.1)) z h3 q2 (λi k c=>⟨E _ _ (Q i k c),λu=>by have:=O.dis _ _ k (Q i k c) u;omega⟩) q4;have J:x.2.2≠[]:=λu=>by rw[u]at z;exact D (List.eq_nil_of_length_eq_zero z.symm)
 obtain⟨Y,m,R3,N,_⟩:=GL (cs:=(tQ q.sz s r.2 (H.new (.cells (r.1.flatMap g)))).1) (F:=F 1) R2 A2 (λk c=> .inl (Nat.le_trans R.ext.size c.1.1)) (λk c=>⟨⟨E _ _ c,λu=>by have:=O.dis _ _ k c u;omega⟩,λi hi=>by have:=O.dis _ _ k c (Q i k hi);omega⟩) q1 J (by rw[K_];exact M);refine⟨_,Y,rfl,dG.le_trans y (dG.le_trans j m),R3,?_⟩
 refine Fp (vs:=[x.1,x.2.1]) (.cons ((K.le j).le m) (.cons (by rw[<-z];exact N) .nil)) λv hv=>?_;have d:∀{γ:Type} {e:cO γ} {F:Nat->Prop} {v:Value} {U:List γ},Cy e A F v U->one v=true:=λh=>by
  obtain⟨_,_,h⟩:=h;rcases h with⟨rfl,_⟩|⟨b,ac,aa,T,ab,rfl,_⟩<;>rfl
 simp at hv;rcases hv with rfl|rfl
 ·exact d q0
 exact d q1
end
noncomputable section
def KG (H:GH) (v:GV):Option (List Int):=Mg H 1 (dI .i64) v
def Wb (H:GH) (v:GV):Option (List (List (Int×Int))):=Mg H 1 (dS H 2 (dP 1 (dI .i64) (dI .i64))) v
def abd (H:GH) (v:GV):Option (List (List Int)):=Mg H 1 (dS H 1 (dI .i64)) v
def Qr (H:GH) (v:GV):Option (List Int×List (List (Int×Int))):=ob v.asA λc=>List.casesOn (motive:=λ_=>Option (List Int×List (List (Int×Int)))) c none λa r=>List.casesOn (motive:=λ_=>Option (List Int×List (List (Int×Int)))) r none λb r=>List.casesOn (motive:=λ_=>Option (List Int×List (List (Int×Int)))) r (ob (KG H a) λx=>ob (Wb H b) λy=>some (x,y)) λ_ _=>none
end
section
variable {P:Program} {gs:xR} {w0:d_ gs} {w:World} {ρ:dG} {H:GH}
theorem FA (R:eQ w0 ρ H w) {v:GV} {V:Value} {a:List Int} (b:Rl ρ v V) (h:KG H v=some a):(Sl (eD.int .i64) V a).p w All:=by
 obtain⟨d,rfl,c⟩:=BM R (λ_ _=>trivial) (gS.int .i64) b h;rw[List.map_id];exact c
theorem Wa (R:eQ w0 ρ H w) {v:GV} {V:Value} {b:List (List Int)} (c:Rl ρ v V) (h:abd H v=some b):∃a,(S2 (eD.int .i64) V a b).p w All:=by
 obtain⟨a,rfl,d⟩:=BM R (λ_ _=>trivial) (gS.sl R (λ_ _=>trivial) (gS.int .i64)) c h;exact⟨a,d,by simp⟩
theorem TS (R:eQ w0 ρ H w) {v:GV} {V:Value} {b:List (List (Int×Int))} (c:Rl ρ v V) (h:Wb H v=some b):∃a,(S2 (eD.pair (eD.int .i64) (eD.int .i64)) V a b).p w All:=by
 obtain⟨a,rfl,d⟩:=BM R (λ_ _=>trivial) (gS.sl R (λ_ _=>trivial) (gS.pair (gS.int .i64) (gS.int .i64))) c h;exact⟨a,d,by simp⟩
theorem KF (R:eQ w0 ρ H w) {v:GV} {V:Value} {p:List Int×List (List (Int×Int))} (j:Rl ρ v V) (h:Qr H v=some p):∃e f i,V = .agg #[e,f]∧(Sl (eD.int .i64) e p.1).p w All∧(S2 (eD.pair (eD.int .i64) (eD.int .i64)) f i p.2).p w All:=by
 obtain⟨c,g,h⟩:=aB.1 (show ob v.asA _=some p from h);rw[IU g]at j;obtain⟨k,rfl,d,_⟩:=j.agg_inv;cases c with
 |nil=>cases h
 |cons a c=>
 cases c with
 |nil=>cases h
 |cons b c=>
 cases c with
 |cons _ _=>cases h
 |nil=>
 obtain⟨x,n,h⟩:=aB.1 (show ob (KG H a) _=some p from h);obtain⟨y,o,h⟩:=aB.1 h;cases h;obtain⟨e,k,rfl,l,d⟩:=d.of_cons;obtain⟨f,k,rfl,m,d⟩:=d.of_cons;rw[d.of_nil];obtain⟨i,q⟩:=TS R m o;exact⟨e,f,i,rfl,FA R l n,q⟩
end
noncomputable section
section
variable {α R:Type}
def a0 (a:List α) (k:Option R):Option R:=List.casesOn (motive:=λ_=>Option R) a k (λ_ _=>none)
def a1 (b:List α) (k:α->Option R):Option R:=List.casesOn (motive:=λ_=>Option R) b none λa r=>a0 r (k a)
def a2 (b:List α) (k:α->α->Option R):Option R:=List.casesOn (motive:=λ_=>Option R) b none λa r=>a1 r (k a)
def a3 (b:List α) (k:α->α->α->Option R):Option R:=List.casesOn (motive:=λ_=>Option R) b none λa r=>a2 r (k a)
def a4 (b:List α) (k:α->α->α->α->Option R):Option R:=List.casesOn (motive:=λ_=>Option R) b none λa r=>a3 r (k a)
def a5 (us:List α) (k:α->α->α->α->α->Option R):Option R:=List.casesOn (motive:=λ_=>Option R) us none λa r=>a4 r (k a)
def a6 (b:List α) (k:α->α->α->α->α->α->Option R):Option R:=List.casesOn (motive:=λ_=>Option R) b none λa r=>a5 r (k a)
theorem YS {a:List α} {k:Option R} {r:R} (h:a0 a k=some r):a=[]∧k=some r:=by
 cases a with
 |nil=>exact⟨rfl,h⟩
 |cons _ _=>cases h
theorem RG {a:List α} {k:α->Option R} {r:R} (h:a1 a k=some r):∃x,a=[x]∧k x=some r:=by
 cases a with
 |nil=>cases h
 |cons x a=>obtain⟨rfl,h⟩:=YS h;exact⟨x,rfl,h⟩
theorem LR {a:List α} {k:α->α->Option R} {r:R} (h:a2 a k=some r):∃x y,a=[x,y]∧k x y=some r:=by
 cases a with
 |nil=>cases h
 |cons x a=>obtain⟨y,rfl,h⟩:=RG h;exact⟨x,y,rfl,h⟩
theorem YT {a:List α} {k:α->α->α->Option R} {r:R} (h:a3 a k=some r):∃x y z,a=[x,y,z]∧k x y z=some r:=by
 cases a with
 |nil=>cases h
 |cons x a=>obtain⟨y,z,rfl,h⟩:=LR h;exact⟨x,y,z,rfl,h⟩
theorem LS {a:List α} {k:α->α->α->α->Option R} {r:R} (h:a4 a k=some r):∃x y z u,a=[x,y,z,u]∧k x y z u=some r:=by
 cases a with
 |nil=>cases h
 |cons x a=>obtain⟨y,z,u,rfl,h⟩:=YT h;exact⟨x,y,z,u,rfl,h⟩
theorem YU {a:List α} {k:α->α->α->α->α->Option R} {r:R} (h:a5 a k=some r):∃x y z u v,a=[x,y,z,u,v]∧k x y z u v=some r:=by
 cases a with
 |nil=>cases h
 |cons x a=>obtain⟨y,z,u,v,rfl,h⟩:=LS h;exact⟨x,y,z,u,v,rfl,h⟩
theorem YV {a:List α} {k:α->α->α->α->α->α->Option R} {r:R} (h:a6 a k=some r):∃x y z u v w,a=[x,y,z,u,v,w]∧k x y z u v w=some r:=by
 cases a with
 |nil=>cases h
 |cons x a=>obtain⟨y,z,u,v,w,rfl,h⟩:=YU h;exact⟨x,y,z,u,v,w,rfl,h⟩
end
def ZK (k:IntKind) (v:GV):Option Int:=ob v.asI λp=>bif eqK p.1 k then some p.2 else none
def Wc (H:GH) (v:GV):Option (List Int):=Mg H 1 (dI .u32) v
def afh (H:GH) (v:GV):Option (Int×List Int×List Int×List Int×Bool×Bool):=ob v.asA λg=>a6 g λa b c d e f=>ob (ZK .i64 a) λn=>ob (KG H b) λx=>ob (KG H c) λy=>ob (KG H d) λz=>ob e.asB λp=>ob f.asB λq=>some (n,x,y,z,p,q)
def gI (n:Int):List GV:=[.int .i64 n]
def gP (p:Int×Int):List GV:=[.int .i64 p.1,.int .i64 p.2]
def fcI {R:Type} (l:List Int):(List Int->R)->R:=List.rec (motive:=λ_=>(List Int->R)->R) (λk=>k []) (λx _ a k=>fi x λx=>a λr=>k (x::r)) l
def fcP {R:Type} (l:List (Int×Int)):(List (Int×Int)->R)->R:=List.rec (motive:=λ_=>(List (Int×Int)->R)->R) (λk=>k []) (λx _ c k=>fi x.1 λa=>fi x.2 λb=>c λr=>k ((a,b)::r)) l
def fcR {R:Type} (l:List (List (Int×Int))):(List (List (Int×Int))->R)->R:=List.rec (motive:=λ_=>(List (List (Int×Int))->R)->R) (λk=>k []) (λx _ a k=>fcP x λx=>a λr=>k (x::r)) l
theorem Wq {R:Type}:∀(l:List Int) (k:List Int->R),fcI l k=k l
 | [],k=>rfl
 |x::l,k=>by
  show fi x (λx=>fcI l λr=>k (x::r))=_;rw[KN,Wq l]
theorem Wr {R:Type}:∀(l:List (Int×Int)) (k:List (Int×Int)->R),fcP l k=k l
 | [],k=>rfl
 |x::l,k=>by
  show fi x.1 (λa=>fi x.2 λb=>fcP l λr=>k ((a,b)::r))=_;rw[KN,KN,Wr l]
theorem Ws {R:Type}:∀(l:List (List (Int×Int))) (k:List (List (Int×Int))->R),fcR l k=k l
 | [],k=>rfl
 |x::l,k=>by
  show fcP x (λx=>fcR l λr=>k (x::r))=_;rw[Wr,Ws l]
def SI (b:Bool) (H:GH):OR:=Bool.casesOn (motive:=λ_=>OR) b (some (.bool false,H)) (some (.bool true,H))
def QY (r:List Int×List (List (Int×Int))) (H:GH):OR:=fcI r.1 λx=>fcR r.2 λy=>bif Nat.beq x.length 0 then none else bif Nat.beq y.length 0 then none else bif y.any λl=>Nat.beq l.length 0 then none else
 fc (x.flatMap gI) λl=>H.newK (.cells l) λh a=>fc (tQ 2 gP y a).1 λd=>sn x.length λn=>sn y.length λm=>(tQ 2 gP y a).2.newK (.cells d) λc b=>some (.agg [.sl h 0 n 1,.sl c 0 m 1],b)
end
section
variable {P:Program} {gs:xR} {w0:d_ gs} {w:World} {ρ:dG} {H H':GH} {g:GV}
theorem n_.one {x:GV} {vs:List Value} (h:n_ ρ [x] vs):∃V,vs=[V]∧Rl ρ x V:=by
 obtain⟨v,vs,rfl,a,b⟩:=h.of_cons;rw[b.of_nil];exact⟨v,rfl,a⟩
theorem Da {k:IntKind} {v:GV} {V:Value} {n:Int} (a:Rl ρ v V) (h:ZK k v=some n):V = .int k n:=by
 obtain⟨p,c,h⟩:=aB.1 (show ob v.asI _=some n from h);obtain⟨b,h⟩:=bL.1 h;cases h;rw[m_ c]at a;rw[a.int_inv,GG b]
theorem Vu {v:GV} {V:Value} {b:Bool} (a:Rl ρ v V) (h:v.asB=some b):V = .bool b:=by
 rw[AU h]at a;exact a.bool_inv
theorem NX (R:eQ w0 ρ H w) {v:GV} {V:Value} {a:List Int} (b:Rl ρ v V) (h:Wc H v=some a):(Sl (eD.int .u32) V a).p w All:=by
 obtain⟨d,rfl,c⟩:=BM R (λ_ _=>trivial) (gS.int .u32) b h;rw[List.map_id];exact c
theorem ZJ (R:eQ w0 ρ H w) {v:GV} {V:Value} {p:Int×List Int×List Int×List Int×Bool×Bool} (l:Rl ρ v V) (h:afh H v=some p):
  ∃m o s,V = .agg #[.int .i64 p.1,m,o,s,.bool p.2.2.2.2.1,.bool p.2.2.2.2.2]∧(Sl (eD.int .i64) m p.2.1).p w All∧(Sl (eD.int .i64) o p.2.2.1).p w All∧(Sl (eD.int .i64) s p.2.2.2.1).p w All:=by
 obtain⟨T,k,h⟩:=aB.1 (show ob v.asA _=some p from h);obtain⟨a,b,c,d,e,f,rfl,h⟩:=YV h;obtain⟨n,I,h⟩:=aB.1 h;obtain⟨x,L,h⟩:=aB.1 h;obtain⟨y,M,h⟩:=aB.1 h;obtain⟨z,N,h⟩:=aB.1 h;obtain⟨q,J,h⟩:=aB.1 h;obtain⟨r,K,h⟩:=aB.1 h;cases h;rw[IU k]at l;obtain⟨j,rfl,i,_⟩:=l.agg_inv;obtain⟨U,j,rfl,B,i⟩:=i.of_cons;obtain⟨O,j,rfl,C,i⟩:=i.of_cons;obtain⟨Q,j,rfl,D,i⟩:=i.of_cons;obtain⟨S,j,rfl,E,i⟩:=i.of_cons;obtain⟨W,j,rfl,F,i⟩:=i.of_cons;obtain⟨X,rfl,G⟩:=i.one;have t:=Da B I;have u:=Vu F J;have A:=Vu G K;subst t u A;exact⟨O,Q,S,rfl,FA R C L,FA R D M,FA R E N⟩
theorem EQ {b:Bool} (h:SI b H=some (g,H')):g = .bool b∧H'=H:=by
 cases b<;>cases h<;>exact⟨rfl,rfl⟩
theorem Oy {r:List Int×List (List (Int×Int))} (h:QY r H=some (g,H')):r.1≠[]∧r.2≠[]∧(∀a∈r.2,a≠[])∧
  g = .agg [.sl H.n 0 r.1.length 1,.sl (tQ 2 gP r.2 (H.new (.cells (r.1.flatMap gI)))).2.n 0 r.2.length 1]∧H'=(tQ 2 gP r.2 (H.new (.cells (r.1.flatMap gI)))).2.new (.cells (tQ 2 gP r.2 (H.new (.cells (r.1.flatMap gI)))).1):=by
 unfold QY at h;rw[Wq,Ws]at h;obtain⟨b,h⟩:=kI.1 h;obtain⟨c,h⟩:=kI.1 h;obtain⟨d,h⟩:=kI.1 h;rw[Si,iM,Si,uU,uU,iM]at h;cases h;refine⟨λe=>(by rw[e]at b;cases b),λe=>(by rw[e]at c;cases c),λa f e=>?_,rfl,rfl⟩
 have:=List.any_eq_false.1 d a f;rw[e]at this;exact this Z
theorem afk (ρ:dG) (x:Int):n_ ρ (gI x) [.int .i64 x]:= .cons (.int _ _) .nil
theorem afl (ρ:dG) (x:Int×Int):n_ ρ (gP x) [.int .i64 x.1,.int .i64 x.2]:= .cons (.int _ _) (.cons (.int _ _) .nil)
def glb (b:Nat) (a:List Value) (T:Nat):xR:=⟨[(b,.cells a.toArray T (0,0))],[]⟩
theorem Wz {b:Nat} {a:List Value} (w:World) (S:Nat->Prop) (h:∀h∈[Gb b a],h.p w S):∃T,Hm (glb b a T) w λ_=>False:=by
 obtain⟨_,T,c⟩:=h _ (List.mem_singleton.2 Z);exact⟨T,λp d=>by obtain rfl:=List.mem_singleton.1 d;exact⟨c,id⟩⟩
theorem eQ.glb {b:Nat} {a:List Value} {T:Nat} {c:d_ (glb b a T)} {w:World} {ρ:dG} {H:GH} (R:eQ c ρ H w):(Gb b a).p w All:=⟨trivial,T,(R.glo _ (List.mem_singleton.2 Z)).1⟩
theorem Mz {gs:Nat->xR} {f:Nat} {V:Value} {L:List aX} (q:∀w S,(∀h∈L,h.p w S)->∃T,Hm (gs T) w λ_=>False) (r:aT P f) (y:∀ρ d,Rl ρ g d->d=V) (h:∀T (b:d_ (gs T)),jX P b (λ_=>none) f [] b.w g H'):aY P f #[] L (λ_:Unit=>V) (λ_ l=>l) (λ_ l=>l):=by
 intro w0 o z;obtain⟨T,n⟩:=q w0 o z;rcases h T (.of w0 n)with⟨v,A,c,a,_⟩|⟨_,s⟩
 ·have x:=r #[] w0;rw[show([]:List Value).toArray = #[]from rfl]at a;rw[show(d_.of w0 n).w=w0 from rfl,x]at a;cases a
 refine s.mono ?_;rintro e A ⟨v,c,rfl,_,R,a⟩;exact⟨(),by rw[y _ _ a],R.ext,λ_ _=>False,⟨λi m u=>by simp at u,λi k h=>h.elim,λi j k h=>h.elim⟩,λf t=>by simp at t⟩
section
variable {tb:TB} {T:TypeId}
theorem RH (h:Be tb T=some [wG]) (H:GH):mQ tb T H=some (.ptr H.n 0,H.new (.cells [wG])):=by
 unfold mQ;rw[h];show H.newK (.cells [wG]) (λh H'=>some (GV.ptr h 0,H'))=_;rw[iM]
theorem S_ {t:Ty} (h:tb T=some t) (e:t.size=1) (H:GH) (k:Nat) (c:GV) (d:GH.cells H k=some [c]):lQ tb T (.ptr k 0) wG H=some (.un,H.set k (.cells [wG])):=by
 show ob (H.cells k) (λb=>ob (tb T) λt=>bif Nat.beq 1 t.size then bif Nat.beq t.size 0 then none else ob (FD [wG] 0 b) λa=>H.setK k (.cells a) λH'=>some (GV.un,H')else none)=_;rw[d,h];show(bif Nat.beq 1 t.size then bif Nat.beq t.size 0 then none else ob (FD [wG] 0 [c]) λa=>H.setK k (.cells a) λH'=>some (GV.un,H')else none)=_;rw[e];show H.setK k (.cells [wG]) (λH'=>some (GV.un,H'))=_;rw[wN]
theorem Xb {t:Ty} (h:tb T=some t) (b:wS t.desc=false) (H:GH) (k:Nat) (c:GH.cells H k=some [wG]):tF tb T (.ptr k 0) H=some wG:=by
 show ob (H.cells k) (λa=>ob (tb T) λt=>AM t a 0)=_;rw[c,h];show AM t [wG] 0=_;unfold AM;rw[b];rfl
end
def Mc (a:Func):List Oper:=match a.body with
 |some (.seq (.region _ ops _) _)=>ops.toList
 |_=>[]
def VO (a:Func):Code:=match a.body with
 |some (.seq _ c)=>c
 |_=> .skip
def ZG (a:Func):Nat:=match Mc a with
 |o::_=>o.dst.getD 0
 | []=>0
def okN (r:RS):Bool:=match r with
 |some o=>match o.e with
  | .normal=>true
  |_=>false
 |none=>false
theorem Xp {r:RS} (h:okN r=true):∃a,r=some a∧a.e = .normal:=by
 unfold okN at h;cases r with
 |none=>cases h
 |some o=>
  refine⟨o,rfl,?_⟩
  cases b:o.e<;>simp only[b]at h<;>first|rfl|cases h
def okT (r:OR):Bool:=match r with
 |some (.bool true,_)=>true
 |_=>false
theorem Xq {r:OR} (h:okT r=true):∃H',r=some (.bool true,H'):=by
 unfold okT at h;split at h
 ·exact⟨_,rfl⟩
 ·cases h
end
end Go.Gx
namespace Go.Proofs.YtmdlcmbplnhdnaaGreatDoor
open Go.Sx
def mX  (a:Unit):Option (Bool):=
 some (true)
def iF (d:aP) (a:Int×List (Bool)) (c:(Int×List (Bool))->Option (Bool)) (b:Bool):Option (Bool):=
 if b=true then(some (false))else(ck ((0<=(at' d a.1)∧(at' d a.1)<((256:Nat):Int))∧List.length a.2=256) (c ((wI .i64 (a.1+(1:Int))),(List.set a.2 (Int.toNat (at' d a.1)) true))))
def fO (b:aP) (a:Int×List (Bool)) (c:(Int×List (Bool))->Option (Bool)):Option (Bool):=
 if a.1<(List.length b:Int)then(ck (0<=a.1∧a.1<(List.length b:Int)) (if(at' b a.1)<(0:Int)then(iF b a c (true))else(if(255:Int)<(at' b a.1)then(iF b a c (true))else(ck ((0<=(at' b a.1)∧(at' b a.1)<((256:Nat):Int))∧List.length a.2=256) (iF b a c ((at' a.2 (at' b a.1))))))))else(mX  (()))
def iZ (U:Nat) (a:aP):Option (Bool):=
 bK (fO a) U ((0:Int),(List.replicate 256 false))
theorem Zh:aT Tryz.prog 116:=Tryz.call116
theorem Dv (U:Nat) {d:aP} (n:Value) (r:Bool) (h:iZ U d=some r):
  aY Tryz.prog 116 #[n] [Sl bP n d] (λx:Unit=>vB (r)) (λx l=>l) (λ_ l=>l):=by
 refine aY.of Tryz.func116 Z Tryz.ntmps116 Z λc=>?_;unfold iZ at h;refine aU<|aD Z<|aM<|aU ?_;refine aG (aL.alloc (cs:=cellsOf EBo (List.replicate 256 false)) Z (by kernel_rfl)) Z λm=>?_;refine aM<|aJ<|fF (λk=>mX  k=some r) (λk o=>[]) (λk o=>[]) ?_ ?_
 ·refine aU<|aA Z<|kP (aE.fact 0 Z) Z<|aA Z<|aM<|aV<|e_ (fO d) (λa p=>[(3,vP m),(6,n),(7,vI (List.length d:Int)),(8,vI (a.1))]) (λa p=>[bV m (cellsOf EBo a.2) 204]) ((0:Int),(List.replicate 256 false)) () h SF (aZ.refl _) ?_;intro q a p h;refine aU<|cX Z<|aM<|aJ ?_;refine fC h Z (λh=>?_) λh=>?_
  ·refine cV<|aJ<|aV<|aU<|dH h λg h=>aC (bB Z Z (aE.fact 0 Z) Z Z g) Z<|aC (bY Z (aE.fact 0 Z) Z Z Z dJ g) Z<|aD Z<|aM<|aJ<|aJ<|fF (λb=>iF d a (bK (fO d) q) b=some r) (λb f=>[(3,vP m),(5,vI (at' d a.1)),(6,n),(7,vI (List.length d:Int)),(8,vI (a.1)),(22,vB (b))]) (λb f=>[bV m (cellsOf EBo a.2) 204]) ?_ ?_
   ·refine aR<|aA Z<|cX Z<|aA Z ?_;refine EN h Z (λ_ h=>?_) λ_ h=>?_
    ·refine aN Z<|aN Z<|fK Z<|aA Z<|aN Z<|aN Z<|aN Z<|fK Z<|aM ?_;exact jP (true) () h SF Z
    refine eX Z<|aW Z (wL Z Z) Z<|iL Z<|aA Z ?_;refine EN h Z (λ_ h=>?_) λ_ h=>?_
    ·refine aN Z<|aN Z<|aN Z<|fK Z<|aM ?_;exact jP (true) () h SF Z
    refine eX Z<|dH h λj h=>aW Z (nV Z Z Z Z Z j.1) Z<|aW Z (TA (e:=EBo) Z (aE.res 0 Z) Z Z Z Z j) Z<|iL Z<|aM ?_;exact jP ((at' a.2 (at' d a.1))) () h SF Z
   intro b f h;refine Bm h Z (λ_ h=>?_) λ_ h=>?_
   ·refine aU<|aD Z<|aM<|aS<|aI<|bM<|aI<|aI<|bM<|aI ?_;cases h;exact vZ Z
   refine cV<|aR<|aA Z<|dH h λi h=>aC (nV Z Z Z Z Z i.1) Z<|IF 0 (e:=EBo) true i Z Z Z Z Z Z Z<|eR<|o_<|aR<|cP Z<|aA Z<|aM ?_;exact AT ((wI .i64 (a.1+(1:Int))),(List.set a.2 (Int.toNat (at' d a.1)) true)) () h SF Z
  refine gK ?_;exact cU () (()) h SF .nil (aF.refl _ _)
 intro k o h;unfold mX at h;refine aU<|aD Z<|aM<|aS ?_;cases h;exact lI Z
def uE (c:(List ((Int×Int)×Int))) (a:(Int×Int)×Int) (b:Option (Bool)):Option (Bool):=
 if(Option.getD (lV (a.1.2,a.1.1) c) (0:Int))≠a.2 then(some (false))else(b)
def iP  (a:(List ((Int×Int)×Int))):Option (Bool):=
 Kk (uE a) (some (true)) a
def mB (b:HF) (a:Lk->Option (Bool)) (c:(List ((Int×Int)×Int))):Option (Bool):=
 a ((wI .i64 (b.1+(1:Int))),c)
def iQ (e:gE) (b:HF) (a:HF) (c:Lk->Option (Bool)) (d:Bool):Option (Bool):=
 if d=true then(some (false))else(if(Option.isSome (lV (b.1,((at' (at' e b.1) a.1).1)) a.2))=true then(some (false))else(c ((wI .i64 (a.1+(1:Int))),(BZ (b.1,((at' (at' e b.1) a.1).1)) ((at' (at' e b.1) a.1).2) a.2))))
def gM (d:gE) (a:HF) (b:HF) (c:Lk->Option (Bool)) (e:Bool):Option (Bool):=
 if e=true then(some (false))else(if((at' (at' d a.1) b.1).2)<(1:Int)then(iQ d a b c (true))else(iQ d a b c (decide ((15:Int)<((at' (at' d a.1) b.1).2)))))
def cD (d:gE) (a:HF) (e:Lk->Option (Bool)) (b:HF) (c:Lk->Option (Bool)):Option (Bool):=
 if b.1<(List.length (at' d a.1):Int)then(ck (0<=b.1∧b.1<(List.length (at' d a.1):Int)) (if((at' (at' d a.1) b.1).1)<(0:Int)then(gM d a b c (true))else(if(List.length d:Int)<=((at' (at' d a.1) b.1).1)then(gM d a b c (true))else(gM d a b c (decide (((at' (at' d a.1) b.1).1)=a.1))))))else(mB a e (b.2))
def cM (U:Nat) (c:gE) (a:HF) (b:Lk->Option (Bool)):Option (Bool):=
 if a.1<(List.length c:Int)then(ck (0<=a.1∧a.1<(List.length c:Int)) (bK (cD c a b) U ((0:Int),a.2)))else(iP  (a.2))
def fW (U:Nat) (a:gE):Option (Bool):=
 bK (cM U a) U ((0:Int),([]:List ((Int×Int)×Int)))
theorem Zi:aT Tryz.prog 117:=Tryz.call117
theorem Gg (U:Nat) {f:gE} (n:Value)  (F:mZ) (r:Bool) (h:fW U f=some r):
  aY Tryz.prog 117 #[n] [S2 bA n F f] (λx:Unit=>vB (r)) (λx l=>l) (λ_ l=>l):=by
 refine aY.of Tryz.func117 Z Tryz.ntmps117 Z λc=>?_;unfold fW at h;refine aU<|aD Z<|aM<|aU<|aG (aL.makeMap mR Pu) Z λk=>aD Z<|aM<|aJ<|fF (λq=>iP  q=some r) (λq H=>[(3,Value.map (some k))]) (λq H=>[Mp mR Pu k q]) ?_ ?_
 ·refine aU<|aA Z<|aC (jW Z (aE.fact 0 Z) Z) Z<|aA Z<|aM<|aV<|e_ (cM U f) (λd y=>[(0,n),(3,Value.map (some k)),(14,n),(15,vI (List.length f:Int)),(16,vI (d.1))]) (λd y=>[Mp mR Pu k d.2]) ((0:Int),([]:List ((Int×Int)×Int))) () h SF (aZ.refl _) ?_;intro t d y h;refine aU<|cX Z<|aM<|aJ ?_;refine fC h Z (λh=>?_) λh=>?_
  ·refine cV<|aJ<|fF (λm=>mB d (bK (cM U f) t) m=some r) (λm z=>[(0,n),(3,Value.map (some k)),(14,n),(15,vI (List.length f:Int)),(16,vI (d.1))]) (λm z=>[Mp mR Pu k m]) ?_ ?_
   ·refine aV<|aU<|aA Z<|dH h λj h=>aC (cL Z Z (aE.fact 0 Z) Z Z j) Z<|aC (cT Z (aE.fact 0 Z) Z Z j) Z<|aD Z<|aD Z<|aM<|aU<|aA Z<|aC (jC Z (aE.el (aE.fact 0 Z) j.1 j.2) Z) Z<|aA Z<|aM<|aV<|e_ (cD f d (bK (cM U f) t)) (λe A=>[(0,n),(3,Value.map (some k)),(4,vI (d.1)),(14,n),(15,vI (List.length f:Int)),(16,vI (d.1)),(21,(at' F d.1).1),(22,vI (List.length (at' f d.1):Int)),(23,vI (e.1))]) (λe A=>[Mp mR Pu k e.2]) ((0:Int),d.2) () h SF (aZ.refl _) ?_;intro E e A h;refine aU<|cX Z<|aM<|aJ ?_;refine fC h Z (λh=>?_) λh=>?_
    ·refine cV<|aJ<|aV<|aU<|dH h λD h=>aC (bB Z Z (aE.el (aE.fact 0 Z) j.1 j.2) Z Z D) Z<|aC (jG (cs:=[vI ((at' (at' f d.1) e.1).1),vI ((at' (at' f d.1) e.1).2)]) Z (aE.el (aE.fact 0 Z) j.1 j.2) bR Z Z Z Z D) Z<|aG (aL.alloc (cs:=UG) Z Z) Z λs=>bQ 0 (vs:=[vI ((at' (at' f d.1) e.1).1),vI ((at' (at' f d.1) e.1).2)]) Z Z Z Z Z Z<|aM<|aJ<|aJ<|fF (λo=>gM f d e (bK (cD f d (bK (cM U f) t)) E) o=some r) (λo B=>[(0,n),(3,Value.map (some k)),(4,vI (d.1)),(7,vP s),(14,n),(15,vI (List.length f:Int)),(16,vI (d.1)),(21,(at' F d.1).1),(22,vI (List.length (at' f d.1):Int)),(23,vI (e.1)),(42,vB (o))]) (λo B=>[bV s [vI ((at' (at' f d.1) e.1).1),vI ((at' (at' f d.1) e.1).2)] 92,Mp mR Pu k e.2]) ?_ ?_
     ·refine aR<|bU Z<|dL 0 Z<|cX Z<|aA Z ?_;refine EN h Z (λ_ h=>?_) λ_ h=>?_
      ·refine aN Z<|aN Z<|aN Z<|aN Z<|aN Z<|fK Z<|aA Z<|aN Z<|aN Z<|aN Z<|aN Z<|fK Z<|aM ?_;exact jP (true) () h SF Z
      refine aW Z (eT Z Z Z Z Z) Z<|aW Z (gV 0 Z Z Z Z Z) Z<|eX Z<|aW Z (jW Z (aE.fact 0 Z) Z) Z<|aW Z (Hn Z Z) Z<|iL Z<|aA Z ?_;refine EN h Z (λ_ h=>?_) λ_ h=>?_
      ·refine aN Z<|aN Z<|aN Z<|aN Z<|fK Z<|aM ?_;exact jP (true) () h SF Z
      refine aW Z (eT Z Z Z Z Z) Z<|aW Z (gV 0 Z Z Z Z Z) Z<|eX Z<|aW Z (Vm Z Z) Z<|iL Z<|aM ?_;exact jP (decide (((at' (at' f d.1) e.1).1)=d.1)) () h SF Z
     intro o B h;refine Bm h Z (λ_ h=>?_) λ_ h=>?_
     ·refine aU<|aD Z<|aM<|aS<|aI<|bM<|aI<|aI<|bM<|bM<|aI<|aI<|bM<|aI ?_;cases h;exact vZ Z
     refine cV<|aJ<|aJ<|fF (λp=>iQ f d e (bK (cD f d (bK (cM U f) t)) E) p=some r) (λp C=>[(0,n),(3,Value.map (some k)),(4,vI (d.1)),(7,vP s),(14,n),(15,vI (List.length f:Int)),(16,vI (d.1)),(21,(at' F d.1).1),(22,vI (List.length (at' f d.1):Int)),(23,vI (e.1)),(50,vB (p))]) (λp C=>[bV s [vI ((at' (at' f d.1) e.1).1),vI ((at' (at' f d.1) e.1).2)] 92,Mp mR Pu k e.2]) ?_ ?_
     ·refine aR<|bU Z<|dL 0 Z<|cX Z<|aA Z ?_;refine EN h Z (λ_ h=>?_) λ_ h=>?_
      ·refine aN Z<|aN Z<|aN Z<|fK Z<|aM ?_;exact jP (true) () h SF Z
      refine aW Z (eT Z Z Z Z Z) Z<|aW Z (gV 0 Z Z Z Z Z) Z<|aW Z (wL Z Z) Z<|iL Z<|aM ?_;exact jP (decide ((15:Int)<((at' (at' f d.1) e.1).2))) () h SF Z
     intro p C h;refine Bm h Z (λ_ h=>?_) λ_ h=>?_
     ·refine aU<|aD Z<|aM<|aS<|aI<|bM<|aI<|aI<|bM<|bM<|aI<|aI<|bM<|aI ?_;cases h;exact vZ Z
     refine cV<|aU<|aA Z<|bU Z<|dL 0 Z ?_;refine aC (BD (r:=Value.agg #[vI (d.1),vI ((at' (at' f d.1) e.1).1)]) Z Z (by intro w;simp[Instr.build,Instr.fill,eL,dU,dC,eM,eN,dV,f_])) Z ?_;refine aG (aL.alloc (cs:=UG) Z Z) Z λK=>bQ 0 (vs:=[vI (d.1),vI ((at' (at' f d.1) e.1).1)]) Z Z Z Z Z Z<|aM<|aJ<|aU<|aA Z<|fG 0 Z ?_;refine aC (NK 2 ((d.1,((at' (at' f d.1) e.1).1))) (u:=vI (Option.getD (lV (d.1,((at' (at' f d.1) e.1).1)) e.2) (0:Int))) Mv Z Z Z Z Z (by cases lV ((d.1,((at' (at' f d.1) e.1).1))) e.2<;>rfl)) Z ?_;refine aA Z<|iK Z<|iK Z<|aD Z<|aD Z<|aM<|aU<|aA Z<|aM ?_;refine Bm h Z (λ_ h=>?_) λ_ h=>?_
     ·refine aU<|aD Z<|aM<|aS<|aI<|bM<|aI<|aI<|bM<|bM<|aI<|aI<|bM<|aI ?_;cases h;exact vZ Z
     refine cV<|aR<|aA Z<|fG 0 Z<|bU Z<|dL 1 Z<|Ni 2 ((d.1,((at' (at' f d.1) e.1).1))) ((at' (at' f d.1) e.1).2) Mv Z Z Z Z Z<|eR<|o_<|aR<|cP Z<|aA Z<|aM ?_;exact nM ((wI .i64 (e.1+(1:Int))),(BZ (d.1,((at' (at' f d.1) e.1).1)) ((at' (at' f d.1) e.1).2) e.2)) () h SF (aZ.ix [2] Z Z) (aF.refl _ _)
    refine u_<|gU<|gU<|Az<|o_ ?_;exact jP (e.2) () h SF Z
   intro m z h;unfold mB at h;refine aR<|cP Z<|aA Z<|aM ?_;exact AT ((wI .i64 (d.1+(1:Int))),m) () h SF Z
  refine gK ?_;exact jP (d.2) () h SF Z
 intro q H h;unfold iP at h;refine aJ<|aU<|aA Z<|aG (aL.range 0 Z Z Z) Z λI=>aM<|aV<|YG [(3,Value.map (some k)),(69,vP I)] [It I k (List.length q) ([]),Mp mR Pu k q] [S2 bA n F f] SF (aZ.refl _) (aF.refl _ _) ?_;refine To (uE q) 1 0 (by intro a b x;unfold uE;repeat' split;all_goals first|rfl|contradiction|simp_all) h Z Z Z Z Z Z ?_ ?_
 ·skip
  intro g N G M v h;refine aV<|aU<|aG (aL.entry 1 0 v Z Z Z) Z λL=>iK Z<|iK Z<|aG (aL.alloc (cs:=UG) Z Z) Z λJ=>bQ 0 (vs:=[vI (g.1.1),vI (g.1.2)]) Z Z Z Z Z Z<|aD Z<|aM<|aU<|aA Z ?_;refine aC (nV (i:=1) Z Z Z Z Z (by decide)) Z ?_;refine dL 0 Z ?_;refine aC (nV (i:=0) Z Z Z Z Z (by decide)) Z ?_;refine dL 0 Z ?_;refine aC (BD (r:=Value.agg #[vI (g.1.2),vI (g.1.1)]) Z Z (by intro w;simp[Instr.build,Instr.fill,eL,dU,dC,eM,eN,dV,f_])) Z ?_;refine aC (NK 2 ((g.1.2,g.1.1)) (u:=vI (Option.getD (lV (g.1.2,g.1.1) q) (0:Int))) Mv Z Z Z Z Z (by cases lV ((g.1.2,g.1.1)) q<;>rfl)) Z ?_;refine aA Z<|pI Z<|aM ?_;refine fC h Z (λh=>?_) λh=>?_
  ·refine aU<|aD Z<|aM<|aS<|bM<|aI<|bM<|aI ?_;cases h;exact vZ Z
  refine dX<|o_ ?_;exact PU h SF (aZ.ix [1,2] Z Z) (aF.refl _ _)
 intro G h;refine Az<|AA<|aU<|aD Z<|aM<|aS ?_;cases h;exact vZ Z
def oZ  (a:Bool):Option (Bool):=
 some (a)
def oY (U:Nat) (b:cQ) (c:Bool):Option (Bool):=
 if c=true then(some (false))else(Option.bind (iZ U b.1) λd=>(if d=true then(Option.bind (fW U b.2) λa=>(oZ  (a)))else(oZ  (false))))
def gQ (U:Nat) (a:cQ):Option (Bool):=
 if(List.length a.1:Int)<(1:Int)then(oY U a (true))else(if(24:Int)<(List.length a.1:Int)then(oY U a (true))else(oY U a (decide ((List.length a.2:Int)≠(List.length a.1:Int)))))
theorem Mb:aT Tryz.prog 86:=Tryz.call86
theorem xN (U:Nat) {p0:cQ} (f:Value)  (g:Value)  (o:mZ) (r:Bool) (h:gQ U p0=some r):
  aY Tryz.prog 86 #[Value.agg #[f,g]] [Sl bP f p0.1,S2 bA g o p0.2] (λx:Unit=>vB (r)) (λx l=>l) (λ_ l=>l):=by
 refine aY.of Tryz.func86 Z Tryz.ntmps86 Z λc=>?_;refine aU<|aG (aL.box (cs:=[f,g]) Z Z) Z λk=>aD Z<|aM<|aU<|bU Z<|dL 0 Z<|kP (aE.fact 0 Z) Z<|aD Z<|aM<|aJ<|aJ<|fF (λb=>oY U p0 b=some r) (λb m=>[(1,vP k),(19,vB (b))]) (λb m=>[bV k [f,g] 29]) ?_ ?_
 ·refine aR<|aA Z<|cX Z<|aA Z ?_;refine EN h Z (λ_ h=>?_) λ_ h=>?_
  ·refine aN Z<|aN Z<|fK Z<|aA Z<|aN Z<|aN Z<|aN Z<|aN Z<|aN Z<|fK Z<|aM ?_;exact jP (true) () h SF Z
  refine eX Z<|aW Z (wL Z Z) Z<|iL Z<|aA Z ?_;refine EN h Z (λ_ h=>?_) λ_ h=>?_
  ·refine aN Z<|aN Z<|aN Z<|aN Z<|aN Z<|fK Z<|aM ?_;exact jP (true) () h SF Z
  refine aW Z (eT Z Z Z Z Z) Z<|aW Z (gV 0 Z Z Z Z Z) Z<|aW Z (jW Z (aE.fact 1 Z) Z) Z<|eX Z<|aW Z (CU Z Z) Z<|iL Z<|aM ?_;exact jP (decide ((List.length p0.2:Int)≠(List.length p0.1:Int))) () h SF Z
 intro b m h;refine Bm h Z (λ_ h=>?_) λ_ h=>?_
 ·refine aU<|aD Z<|aM<|aS<|aI ?_;cases h;exact vZ Z
 refine cV<|aJ<|fF (λd=>oZ  d=some r) (λd n=>[(2,vB (d))]) (λd n=>[]) ?_ ?_
 ·refine aR<|bU Z<|dL 0 Z<|fN h λp i h=>aG (aL.callQ Zh (Dv U f p i) Z (qB [0] Z)) Z λq=>aA Z ?_;refine Ff (by exact rfl) (by exact rfl) (λa=>?_) (λa=>?_)
  ·have h:=QJ a h;refine aW Z (eT Z Z Z Z Z) Z<|aW Z (gV 0 Z Z Z Z Z) Z<|fN h λe j h=>tG Z (aL.callQ Zi (Gg U g o e j) Z (qB [1] Z)) Z λs=>fK Z<|aD Z<|aM ?_;exact cU (e) () h SF .nil (aF.refl _ _)
  have h:=Od a h;refine aN Z<|aN Z<|aN Z<|iL Z<|aD Z<|aM ?_;exact cU (false) () h SF .nil (aF.refl _ _)
 intro d n h;unfold oZ at h;refine aS ?_;cases h;exact lI Z
def qG  (a:Int):Option (Int):=
 some (a)
def fE (U:Nat) (b:Int) (a:Int):Option (Int):=
 if a<(1:Int)then(some (0:Int))else(ck (a≠0) (if(Int.tmod b a)<(0:Int)then(qG  (wI .i64 ((Int.tmod b a)+a)))else(qG  (Int.tmod b a))))
theorem BJ:aT Tryz.prog 19:=Tryz.call19
theorem jL (U:Nat) {d:Int} {b:Int} (r:Int) (h:fE U d b=some r):
  aY Tryz.prog 19 #[vI (d),vI (b)] [] (λx:Unit=>vI (r)) (λx l=>l) (λ_ l=>l):=by
 refine aY.of Tryz.func19 Z Tryz.ntmps19 Z λc=>?_;refine aU<|aD Z<|aM<|aJ<|aU<|aA Z<|cX Z<|aM ?_;refine fC h Z (λh=>?_) λh=>?_
 ·refine aU<|aD Z<|aM<|aS<|aI ?_;cases h;exact lI Z
 refine cV<|aU<|aA Z<|aA Z<|dH h λf h=>aC (NM Z Z f) Z<|aD Z<|aM<|aJ<|fF (λa=>qG  a=some r) (λa e=>[(0,vI (a))]) (λa e=>[]) ?_ ?_
 ·refine aU<|aA Z<|cX Z<|aM ?_;refine fC h Z (λh=>?_) λh=>?_
  ·refine aR<|aA Z<|aA Z<|cP Z<|aD Z<|aM ?_;exact jP (wI .i64 ((Int.tmod d b)+b)) () h SF Z
  refine cV ?_;exact jP (Int.tmod d b) () h SF Z
 intro a e h;unfold qG at h;refine aU<|aA Z<|aD Z<|aM<|aS ?_;cases h;exact lI Z
def rD (U:Nat) (b:aP) (a:Int):Option (Int):=
 if a<(List.length b:Int)then(ck (0<=a∧a<(List.length b:Int)) (some (at' b a)))else(some (0:Int))
theorem IV:aT Tryz.prog 30:=Tryz.call30
theorem Ap (U:Nat) {b:aP} {d:Int} (e:Value) (r:Int) (h:rD U b d=some r):
  aY Tryz.prog 30 #[e,vI (d)] [Sl bP e b] (λx:Unit=>vI (r)) (λx l=>l) (λ_ l=>l):=by
 refine aY.of Tryz.func30 Z Tryz.ntmps30 Z λc=>?_;refine aU<|aD Z<|aM<|aJ<|aU<|aA Z<|aA Z<|kP (aE.fact 0 Z) Z<|cX Z<|aM ?_;refine fC h Z (λh=>?_) λh=>?_
 ·refine aU<|aA Z<|aA Z<|dH h λa h=>aC (bB Z Z (aE.fact 0 Z) Z Z a) Z<|aC (bY Z (aE.fact 0 Z) Z Z Z dJ a) Z<|aD Z<|aM<|aS<|aI ?_;cases h;exact lI Z
 refine cV<|aU<|aD Z<|aM<|aS ?_;cases h;exact lI Z
def uA  (a:Unit):Option (Bool):=
 some (false)
def yP (c:cQ) (a:Int) (e:Int) (b:Int) (d:(Int)->Option (Bool)):Option (Bool):=
 ck (0<=a∧a<(List.length c.2:Int)) (if b<(List.length (at' c.2 a):Int)then(ck (0<=a∧a<(List.length c.2:Int)) (ck (0<=b∧b<(List.length (at' c.2 a):Int)) (if((at' (at' c.2 a) b).1)=e then(some (true))else(d (wI .i64 (b+(1:Int)))))))else(uA  (())))
def mN (U:Nat) (a:cQ) (b:Int) (c:Int):Option (Bool):=
 bK (yP a b c) U (0:Int)
theorem acm:aT Tryz.prog 75:=Tryz.call75
theorem JZ (U:Nat) {g:cQ} {i:Int} {j:Int} (k:Value)  (m:Value)  (q:mZ) (r:Bool) (h:mN U g i j=some r):
  aY Tryz.prog 75 #[Value.agg #[k,m],vI (i),vI (j)] [Sl bP k g.1,S2 bA m q g.2] (λx:Unit=>vB (r)) (λx l=>l) (λ_ l=>l):=by
 refine aY.of Tryz.func75 Z Tryz.ntmps75 Z λc=>?_;unfold mN at h;refine aU<|aG (aL.box (cs:=[k,m]) Z Z) Z λn=>aD Z<|aM<|aJ<|fF (λd=>uA  d=some r) (λd o=>[]) (λd o=>[]) ?_ ?_
 ·refine aU<|aD Z<|aM<|aV<|e_ (yP g i j) (λe p=>[(1,vI (i)),(2,vI (j)),(3,vP n),(7,vI (e))]) (λe p=>[bV n [k,m] 29]) (0:Int) () h SF (aZ.refl _) ?_;intro s e p h;refine aJ<|aU<|aA Z<|bU Z<|dL 0 Z<|aA Z<|dH h λf h=>aC (cL Z Z (aE.fact 1 Z) Z Z f) Z<|aC (cT Z (aE.fact 1 Z) Z Z f) Z<|aC (jC Z (aE.el (aE.fact 1 Z) f.1 f.2) Z) Z<|cX Z<|aM ?_;refine fC h Z (λh=>?_) λh=>?_
  ·refine cV<|aJ<|aV<|aU<|bU Z<|dL 0 Z<|aA Z<|dH h λa h=>aC (cL Z Z (aE.fact 1 Z) Z Z a) Z<|aC (cT Z (aE.fact 1 Z) Z Z a) Z<|aA Z<|dH h λb h=>aC (bB Z Z (aE.el (aE.fact 1 Z) a.1 a.2) Z Z b) Z<|aC (oL Z Z Z Z Z) Z<|aC (qM Z (aE.el (aE.fact 1 Z) a.1 a.2) Z Z Z BA b) Z<|aA Z<|cN Z<|aM ?_;refine fC h Z (λh=>?_) λh=>?_
   ·refine aU<|aD Z<|aM<|aS<|bM<|aI<|aI<|bM<|aI ?_;cases h;exact vZ Z
   refine dX<|o_<|aR<|aA Z<|cP Z<|aD Z<|aM ?_;exact AT (wI .i64 (e+(1:Int))) () h SF Z
  refine gK ?_;exact cU () (()) h SF .nil (aF.refl _ _)
 intro d o h;unfold uA at h;refine aU<|aD Z<|aM<|aS ?_;cases h;exact lI Z
def oC (f:CM) (c:cQ) (a:Int) (b:Int) (d:Int) (e:Bool):Option (gE):=
 if e=true then(some (c.2))else(if f.2.2.2.2.2=true then(ck (0<=a∧a<(List.length c.2:Int)) (ck ((List.length ([(b,d)]):Int)+(List.length (at' c.2 a):Int)<=1099511627) (ck (0<=a∧a<(List.length c.2:Int)) (ck (0<=b∧b<(List.length (List.set c.2 (Int.toNat a) (([(b,d)])++(at' c.2 a))):Int)) (ck ((List.length ([(a,d)]):Int)+(List.length (at' (List.set c.2 (Int.toNat a) (([(b,d)])++(at' c.2 a))) b):Int)<=1099511627) (ck (0<=b∧b<(List.length (List.set c.2 (Int.toNat a) (([(b,d)])++(at' c.2 a))):Int)) (some (List.set (List.set c.2 (Int.toNat a) (([(b,d)])++(at' c.2 a))) (Int.toNat b) (([(a,d)])++(at' (List.set c.2 (Int.toNat a) (([(b,d)])++(at' c.2 a))) b))))))))))else(ck (0<=a∧a<(List.length c.2:Int)) (ck (0<=b∧b<(List.length c.2:Int)) (ck ((List.length (at' c.2 a):Int)+(List.length ([(b,d)]):Int)<=1099511627) (ck ((List.length (at' c.2 b):Int)+(List.length ([(a,d)]):Int)<=1099511627) (ck (Int.toNat a≠Int.toNat b) (ck (0<=a∧a<(List.length (List.set (List.set c.2 (Int.toNat a) ((at' c.2 a)++([(b,d)]))) (Int.toNat b) ((at' c.2 b)++([(a,d)]))):Int)) (ck (0<=b∧b<(List.length (List.set (List.set c.2 (Int.toNat a) ((at' c.2 a)++([(b,d)]))) (Int.toNat b) ((at' c.2 b)++([(a,d)]))):Int)) (some (List.set (List.set c.2 (Int.toNat a) ((at' c.2 a)++([(b,d)]))) (Int.toNat b) ((at' c.2 b)++([(a,d)]))))))))))))
def mI (U:Nat) (e:CM) (a:cQ) (b:Int) (c:Int) (f:Int):Option (gE):=
 if b=c then(oC e a b c f (true))else(Option.bind (mN U ((a.1,a.2)) b c) λd=>(oC e a b c f (d)))
theorem VE:aT Tryz.prog 46:=Tryz.call46
theorem Am (U:Nat) {s:CM} {G:cQ} {f:Int} {g:Int} {d:Int} (J:Value)  (K:Value)  (L:Value)  (H:Value)  (C:Value)  (A:fM) (r:gE) (h:mI U s G f g d=some r):
  EE Tryz.prog 46 #[Value.agg #[vI (s.1),J,K,L,vB (s.2.2.2.2.1),vB (s.2.2.2.2.2)],Value.agg #[H,C],vI (f),vI (g),vI (d)] [Ar cO.raw C A,kN bT A G.2] [Sl bP J s.2.1,Sl bP K s.2.2.1,Sl bP L s.2.2.2.1,Sl bP H G.1] (λx:fM=>Value.tuple #[]) (λx l=>Ar cO.raw C x::kN bT x r::l):=by
 refine EE.of (vs:=[Value.agg #[vI (s.1),J,K,L,vB (s.2.2.2.2.1),vB (s.2.2.2.2.2)],Value.agg #[H,C],vI (f),vI (g),vI (d)]) Tryz.func46 Z Tryz.ntmps46 Z λc=>?_;refine aU<|aG (aL.box (cs:=[vI (s.1),J,K,L,vB (s.2.2.2.2.1),vB (s.2.2.2.2.2)]) Z Z) Z λb1=>aG (aL.box (cs:=[H,C]) Z Z) Z λb2=>aM<|aJ<|aJ<|By (B:=Unit) (λI=>oC s G f g d I=some r) (λI b5=>[(2,vI (f)),(3,vI (g)),(4,vI (d)),(5,vP b1),(6,vP b2),(20,vB (I))]) (λI b5=>[bV b2 [H,C] 29,bV b1 [vI (s.1),J,K,L,vB (s.2.2.2.2.1),vB (s.2.2.2.2.2)] 24,Ar cO.raw C A,kN bT A G.2]) (λI b5=>[Sl bP J s.2.1,Sl bP K s.2.2.1,Sl bP L s.2.2.2.1,Sl bP H G.1]) ?_ ?_
 ·refine aR<|aA Z<|aA Z<|cN Z<|aA Z ?_;refine EN h Z (λ_ h=>?_) λ_ h=>?_
  ·refine aN Z<|aN Z<|aN Z<|aN Z<|fK Z<|aM ?_;exact jP (true) () h SF Z
  refine aW Z (hZ 0 Z Z Z Z) Z<|eX Z<|eX Z<|fN h λav au h=>tG Z (aL.callQ acm (JZ U H C (List.zip A G.2) av au) Z (aF.cons (aE.fact 3 Z) (aF.cons (bS (i:=2) (j:=3) Z Z bR) .nil))) Z λa8=>iL Z<|aM ?_;exact jP (av) () h SF Z
 intro I b5 h;refine Bm h Z (λ_ h=>?_) λ_ h=>?_
 ·refine aS<|aI ?_;cases h;exact Fi (A) Z Z .ret (.inl Z) (aZ.ix [2,3] Z Z) aF.nil
 refine cV<|aU<|aA Z<|aA Z ?_;refine aC (BD (r:=Value.agg #[vI (g),vI (d)]) Z Z (by intro w;simp[Instr.build,Instr.fill,eL,dU,dC,eM,eN,dV,f_])) Z ?_;refine aA Z<|aA Z ?_;refine aC (BD (r:=Value.agg #[vI (f),vI (d)]) Z Z (by intro w;simp[Instr.build,Instr.fill,eL,dU,dC,eM,eN,dV,f_])) Z ?_;refine aG (aL.alloc (cs:=UG) Z Z) Z λb7=>aG (aL.alloc (cs:=UG) Z Z) Z λb8=>bQ 1 (vs:=[vI (g),vI (d)]) Z Z Z Z Z Z<|bQ 0 (vs:=[vI (f),vI (d)]) Z Z Z Z Z Z<|aM<|aJ<|aU<|bU Z<|dL 3 Z<|aM ?_;refine Bm h Z (λ_ h=>?_) λ_ h=>?_
 ·refine aJ ?_;refine JR.start [0,1,0,0,8,0,32,0,224,480,1016,2047,4095] 11 mixedOrders (by decide +kernel) ?_;refine JR.open (by exact rfl) ?_;refine cY Z<|jO 2 Z<|bG Z<|pG 1 Z<|JR.loud Z Z Z (bZ (e:=bT) ([((g,d))]) [(0,Value.agg #[vI (g),vI (d)])] Z Z Z Z (xW (vI (g)) (vI (d))) Z Z Z) Z (λaT=>(uZ [([3],[])] Z)) λaT=>iH Z (eT Z Z Z Z Z)<|bJ Z (aZ.cons 3 Z .nil) .nil (gV 0 Z Z Z Z Z) (aK.h (aZ.ix [2] Z Z) .nil aK.z)<|iH Z (fZ Z)<|dH h λu h=>c_ (dA 6 Z) λM=>?_;refine bJ Z (aZ.cons 5 Z .nil) .nil (fD 0 Z Z Z Z Z u.1 (by have m:=u.2;have n:=M;(try simp only[List.length_set]at m);(try simp only[List.length_set]at n);(try simp only[List.length_set]);omega)) (aK.h (aZ.ix [4] Z Z) .nil aK.z) ?_;refine c_ (dA 6 Z) λN=>bJ Z (aZ.cons 5 Z .nil) .nil (gW 0 Z Z N Z Z u) (aK.h (aZ.ix [4] Z Z) .nil aK.z)<|dH h λaP h=>JR.loud Z Z Z (eJ 0 bR Z Z Z (aE.row (j:=6) Z bR u.1 u.2) Z Z Z Z aP Z) Z (λaw=>(uZ [([3],[])] Z)) λaw=>bN 11 Z Z<|dH h λv h=>aC (cL Z Z (bS (i:=5) (j:=6) Z Z bR) Z Z v) Z<|bX (Know.one ((bD (aE.res 0 Z) bR))) λak=>jD (wP (k:=f) 6 0 Z Z Z v) ?_;refine pK 4 5 ⟨v.1,by first|exact v.2|simpa using v.2⟩ Z Z Z Z Z (by simp) ak Z ?_;refine aM<|aJ ?_;refine JR.start [0,1,0,0,8,0,32,0,224,480,1016,2047,4095] 11 mixedOrders (by decide +kernel) ?_;refine JR.open (by exact rfl) ?_;refine cY Z<|jO 2 Z<|bG Z<|pG 0 Z<|JR.loud Z Z Z (bZ (e:=bT) ([((f,d))]) [(0,Value.agg #[vI (f),vI (d)])] Z Z Z Z (xW (vI (f)) (vI (d))) Z Z Z) Z (λaV=>(uZ [([3],[])] Z)) λaV=>iH Z (eT Z Z Z Z Z)<|bJ Z (aZ.cons 3 Z .nil) .nil (gV 0 Z Z Z Z Z) (aK.h (aZ.ix [2] Z Z) .nil aK.z)<|iH Z (fZ Z)<|dH h λt h=>c_ (dA 6 Z) λO=>?_;refine bJ Z (aZ.cons 5 Z .nil) .nil (fD 0 Z Z Z Z Z t.1 (by have m:=t.2;have n:=O;(try simp only[List.length_set]at m);(try simp only[List.length_set]at n);(try simp only[List.length_set]);omega)) (aK.h (aZ.ix [4] Z Z) .nil aK.z) ?_;refine c_ (dA 6 Z) λP=>bJ Z (aZ.cons 5 Z .nil) .nil (gW 0 Z Z P Z Z t) (aK.h (aZ.ix [4] Z Z) .nil aK.z)<|dH h λaQ h=>JR.loud Z Z Z (eJ 0 bR Z Z Z (aE.row (j:=6) Z bR t.1 (by first|exact t.2|simpa using t.2)) Z Z Z Z aQ Z) Z (λax=>(uZ [([3],[])] Z)) λax=>?_;refine bN 11 Z Z<|dH h λy h=>aC (cL Z Z (bS (i:=5) (j:=6) Z Z bR) Z Z y) Z<|bX (Know.one ((bD (aE.res 0 Z) bR))) λal=>jD (wP (k:=g) 6 0 Z Z Z y) ?_;refine pK 4 5 ⟨y.1,by first|exact y.2|simpa using y.2⟩ Z Z Z Z Z (by simp) al Z ?_;refine aM<|aS<|aI ?_;cases h;exact Fi (List.set (List.set A (Int.toNat f) aw) (Int.toNat g) ax) Z Z .ret (.inl Z) (aZ.ix [4,5] Z Z) aF.nil
 refine cV<|dH h λp h=>dH h λq h=>dH h λD h=>dH h λE h=>dH h λF h=>dH h λa h=>dH h λb h=>Ts [0,1,0,0,8,0,0,64,0,448,960,0,2048,8128,0,16384,0,114688,245760,0,524288,2097088,4194247,8388551,16777215,33554431] 24 [[0,1,2,3,4,5,6,7,8,9,10,11,14,15,16,17,18,19,12,13,20,21,22,23,24,25],[0,1,2,3,4,5,6,7,8,9,10,11,14,15,16,17,18,19,12,20,13,21,22,23,24,25],[0,1,2,3,4,5,6,7,8,9,10,11,14,15,16,17,18,19,20,12,13,21,22,23,24,25]] mixedOrders (by decide +kernel) (by decide +kernel) ?_;intro o ho;simp only[List.mem_cons,List.not_mem_nil,or_false]at ho;rcases ho with rfl|rfl|rfl
 ·refine cY Z<|jO 2 Z<|bG Z<|cY Z<|jO 2 Z<|bG Z<|cY Z<|jO 2 Z<|bG Z<|c_ (dA 5 Z) λQ=>?_;refine bJ Z (aZ.cons 4 Z .nil) .nil (fD 0 Z Z Z Z Z p.1 (by have m:=p.2;have n:=Q;(try simp only[List.length_set]at m);(try simp only[List.length_set]at n);(try simp only[List.length_set]);omega)) aK.z ?_;refine c_ (dA 5 Z) λR=>bJ Z (aZ.cons 4 Z .nil) .nil (gW 0 Z Z R Z Z p) aK.z<|pG 1 Z<|cY Z<|jO 2 Z<|bG Z<|c_ (dA 5 Z) λS=>?_;refine bJ Z (aZ.cons 4 Z .nil) .nil (fD 0 Z Z Z Z Z q.1 (by have m:=q.2;have n:=S;(try simp only[List.length_set]at m);(try simp only[List.length_set]at n);(try simp only[List.length_set]);omega)) aK.z ?_;refine c_ (dA 5 Z) λT=>bJ Z (aZ.cons 4 Z .nil) .nil (gW 0 Z Z T Z Z q) aK.z<|pG 0 Z<|JR.loud Z Z Z (bZ (e:=bT) ([((g,d))]) [(0,Value.agg #[vI (g),vI (d)])] Z Z Z Z (xW (vI (g)) (vI (d))) Z Z Z) Z (λaX=>(uZ [([1],[]),([5],[]),([5],[]),([3],[]),([5],[]),([5],[]),([3],[]),([3],[]),([3],[])] Z)) λaX=>JR.loud Z Z Z (pX 6 bR Z Z Z (bD (aE.res 0 Z) bR) Z Z Z Z p D Z) Z (λay=>(uZ [([1],[]),([5],[]),([5],[]),([3],[]),([3],[]),([3],[])] Z)) λay=>JR.loud Z Z Z (bZ (e:=bT) ([((f,d))]) [(0,Value.agg #[vI (f),vI (d)])] Z Z Z Z (xW (vI (f)) (vI (d))) Z Z Z) Z (λaY=>(uZ [([6],[]),([6],[]),([4],[]),([3],[]),([6],[]),([6],[]),([4],[]),([4],[]),([4],[])] Z)) λaY=>JR.loud Z Z Z (yB (j:=f) 7 bR Z Z Z (bD (aE.res 0 Z) bR) Z Z Z Z q E Z F) Z (λaz=>(uZ [([4],[]),([4],[])] Z)) λaz=>c_ (dA 7 Z) λV=>?_;refine bJ Z (aZ.cons 6 Z .nil) .nil (fD 0 Z Z Z Z Z a.1 (by have m:=a.2;have n:=V;(try simp only[List.length_set]at m);(try simp only[List.length_set]at n);(try simp only[List.length_set]);omega)) (hkI Z) ?_;refine c_ (Bz (k:=f) (j:=g) 7 Z (by omega) ⟨a.1,by first|exact a.2|simpa using a.2⟩) λam=>?_;refine CO Z Z Z (AR 6 7 ⟨a.1,by first|exact a.2|simpa using a.2⟩ Z Z Z Z (by simp) am Z) (λa5=>(uZ [([4],[])] Z)) λa5=>?_;refine bN 24 Z Z<|bX (dA 7 Z) λW=>?_;refine aC (fD 6 Z Z Z Z Z b.1 (by have m:=b.2;have n:=W;(try simp only[List.length_set]at m);(try simp only[List.length_set]at n);(try simp only[List.length_set]);omega)) Z ?_;refine bX (AB 7 (k:=g) Z ⟨b.1,by first|exact b.2|simpa using b.2⟩) λan=>?_;refine pK 6 7 ⟨b.1,by first|exact b.2|simpa using b.2⟩ Z Z Z Z Z (by simp) an Z ?_;refine eR ?_;cases h;exact Fi (List.set (List.set A (Int.toNat f) ay) (Int.toNat g) az) Z Z .normal (.inr Z) (aZ.ix [6,7] Z Z) aF.nil
 ·refine cY Z<|jO 2 Z<|bG Z<|cY Z<|jO 2 Z<|bG Z<|cY Z<|jO 2 Z<|bG Z<|c_ (dA 5 Z) λX=>?_;refine bJ Z (aZ.cons 4 Z .nil) .nil (fD 0 Z Z Z Z Z p.1 (by have m:=p.2;have n:=X;(try simp only[List.length_set]at m);(try simp only[List.length_set]at n);(try simp only[List.length_set]);omega)) aK.z ?_;refine c_ (dA 5 Z) λY=>bJ Z (aZ.cons 4 Z .nil) .nil (gW 0 Z Z Y Z Z p) aK.z<|pG 1 Z<|cY Z<|jO 2 Z<|bG Z<|c_ (dA 5 Z) λaa=>?_;refine bJ Z (aZ.cons 4 Z .nil) .nil (fD 0 Z Z Z Z Z q.1 (by have m:=q.2;have n:=aa;(try simp only[List.length_set]at m);(try simp only[List.length_set]at n);(try simp only[List.length_set]);omega)) aK.z ?_;refine c_ (dA 5 Z) λab=>bJ Z (aZ.cons 4 Z .nil) .nil (gW 0 Z Z ab Z Z q) aK.z<|pG 0 Z<|JR.loud Z Z Z (bZ (e:=bT) ([((g,d))]) [(0,Value.agg #[vI (g),vI (d)])] Z Z Z Z (xW (vI (g)) (vI (d))) Z Z Z) Z (λa0=>(uZ [([1],[]),([5],[]),([5],[]),([3],[]),([5],[]),([5],[]),([3],[]),([3],[]),([3],[])] Z)) λa0=>JR.loud Z Z Z (bZ (e:=bT) ([((f,d))]) [(0,Value.agg #[vI (f),vI (d)])] Z Z Z Z (xW (vI (f)) (vI (d))) Z Z Z) Z (λa1=>(uZ [([6],[]),([6],[]),([4],[]),([3],[]),([6],[]),([6],[]),([4],[]),([4],[]),([4],[])] Z)) λa1=>JR.loud Z Z Z (pX 7 bR Z Z Z (bD (aE.res 1 Z) bR) Z Z Z Z p D Z) Z (λaB=>(uZ [([2],[]),([6],[]),([6],[]),([4],[]),([4],[]),([4],[])] Z)) λaB=>JR.loud Z Z Z (yB (j:=f) 7 bR Z Z Z (bD (aE.res 0 Z) bR) Z Z Z Z q E Z F) Z (λaD=>(uZ [([4],[]),([4],[])] Z)) λaD=>c_ (dA 7 Z) λac=>?_;refine bJ Z (aZ.cons 6 Z .nil) .nil (fD 0 Z Z Z Z Z a.1 (by have m:=a.2;have n:=ac;(try simp only[List.length_set]at m);(try simp only[List.length_set]at n);(try simp only[List.length_set]);omega)) (hkI Z) ?_;refine c_ (Bz (k:=f) (j:=g) 7 Z (by omega) ⟨a.1,by first|exact a.2|simpa using a.2⟩) λao=>?_;refine CO Z Z Z (AR 6 7 ⟨a.1,by first|exact a.2|simpa using a.2⟩ Z Z Z Z (by simp) ao Z) (λa6=>(uZ [([4],[])] Z)) λa6=>?_;refine bN 24 Z Z<|bX (dA 7 Z) λad=>?_;refine aC (fD 6 Z Z Z Z Z b.1 (by have m:=b.2;have n:=ad;(try simp only[List.length_set]at m);(try simp only[List.length_set]at n);(try simp only[List.length_set]);omega)) Z ?_;refine bX (AB 7 (k:=g) Z ⟨b.1,by first|exact b.2|simpa using b.2⟩) λap=>?_;refine pK 6 7 ⟨b.1,by first|exact b.2|simpa using b.2⟩ Z Z Z Z Z (by simp) ap Z ?_;refine eR ?_;cases h;exact Fi (List.set (List.set A (Int.toNat f) aB) (Int.toNat g) aD) Z Z .normal (.inr Z) (aZ.ix [6,7] Z Z) aF.nil
 refine cY Z<|jO 2 Z<|bG Z<|cY Z<|jO 2 Z<|bG Z<|cY Z<|jO 2 Z<|bG Z<|c_ (dA 5 Z) λae=>?_;refine bJ Z (aZ.cons 4 Z .nil) .nil (fD 0 Z Z Z Z Z p.1 (by have m:=p.2;have n:=ae;(try simp only[List.length_set]at m);(try simp only[List.length_set]at n);(try simp only[List.length_set]);omega)) aK.z ?_;refine c_ (dA 5 Z) λaf=>bJ Z (aZ.cons 4 Z .nil) .nil (gW 0 Z Z af Z Z p) aK.z<|pG 1 Z<|cY Z<|jO 2 Z<|bG Z<|c_ (dA 5 Z) λag=>?_;refine bJ Z (aZ.cons 4 Z .nil) .nil (fD 0 Z Z Z Z Z q.1 (by have m:=q.2;have n:=ag;(try simp only[List.length_set]at m);(try simp only[List.length_set]at n);(try simp only[List.length_set]);omega)) aK.z ?_;refine c_ (dA 5 Z) λah=>bJ Z (aZ.cons 4 Z .nil) .nil (gW 0 Z Z ah Z Z q) aK.z<|pG 0 Z<|JR.loud Z Z Z (bZ (e:=bT) ([((f,d))]) [(0,Value.agg #[vI (f),vI (d)])] Z Z Z Z (xW (vI (f)) (vI (d))) Z Z Z) Z (λa2=>(uZ [([5],[]),([5],[]),([3],[]),([2],[]),([5],[]),([5],[]),([3],[]),([3],[]),([3],[])] Z)) λa2=>JR.loud Z Z Z (bZ (e:=bT) ([((g,d))]) [(0,Value.agg #[vI (g),vI (d)])] Z Z Z Z (xW (vI (g)) (vI (d))) Z Z Z) Z (λa3=>(uZ [([2],[]),([6],[]),([6],[]),([4],[]),([6],[]),([6],[]),([4],[]),([4],[]),([4],[])] Z)) λa3=>JR.loud Z Z Z (pX 7 bR Z Z Z (bD (aE.res 0 Z) bR) Z Z Z Z p D Z) Z (λaH=>(uZ [([2],[]),([6],[]),([6],[]),([4],[]),([4],[]),([4],[])] Z)) λaH=>JR.loud Z Z Z (yB (j:=f) 7 bR Z Z Z (bD (aE.res 1 Z) bR) Z Z Z Z q E Z F) Z (λaO=>(uZ [([4],[]),([4],[])] Z)) λaO=>c_ (dA 7 Z) λai=>?_;refine bJ Z (aZ.cons 6 Z .nil) .nil (fD 0 Z Z Z Z Z a.1 (by have m:=a.2;have n:=ai;(try simp only[List.length_set]at m);(try simp only[List.length_set]at n);(try simp only[List.length_set]);omega)) (hkI Z) ?_;refine c_ (Bz (k:=f) (j:=g) 7 Z (by omega) ⟨a.1,by first|exact a.2|simpa using a.2⟩) λaq=>?_;refine CO Z Z Z (AR 6 7 ⟨a.1,by first|exact a.2|simpa using a.2⟩ Z Z Z Z (by simp) aq Z) (λa7=>(uZ [([4],[])] Z)) λa7=>?_;refine bN 24 Z Z<|bX (dA 7 Z) λaj=>?_;refine aC (fD 6 Z Z Z Z Z b.1 (by have m:=b.2;have n:=aj;(try simp only[List.length_set]at m);(try simp only[List.length_set]at n);(try simp only[List.length_set]);omega)) Z ?_;refine bX (AB 7 (k:=g) Z ⟨b.1,by first|exact b.2|simpa using b.2⟩) λar=>?_;refine pK 6 7 ⟨b.1,by first|exact b.2|simpa using b.2⟩ Z Z Z Z Z (by simp) ar Z ?_;refine eR ?_;cases h;exact Fi (List.set (List.set A (Int.toNat f) aH) (Int.toNat g) aO) Z Z .normal (.inr Z) (aZ.ix [6,7] Z Z) aF.nil
def nP (b:Int) (a:aP):Option sH:=
 some ((a,(List.replicate (Int.toNat (wI .i64 ((1:Int)+b))) ([]:eW))))
def qV (a:kG) (c:qD->Option sH) (b:Int):Option sH:=
 ck ((List.length a.2:Int)+(List.length ([b]):Int)<=1099511627) (c ((wI .i64 (a.1+(1:Int))),(a.2++[b])))
def kT (b:i_->Option sH) (a:fH):Option sH:=
 b (a.1,(wI .i64 (a.2+(1:Int))))
def kU (b:kG) (d:qD->Option sH) (a:fH) (c:i_->Option sH):Option sH:=
 if a.2<b.1 then(ck (0<=a.2∧a.2<(List.length b.2:Int)) (if(at' b.2 a.2)=a.1 then(ck ((256:Int)≠0) (kT c ((Int.tmod (wI .i64 (a.1+(1:Int))) (256:Int)),(-1:Int))))else(kT c (a.1,a.2))))else(qV b d (a.1))
def iV (U:Nat) (f:CM) (e:Int) (a:kG) (b:qD->Option sH):Option sH:=
 if a.1<(wI .i64 ((1:Int)+e))then(Option.bind (rD U f.2.2.2.1 a.1) λc=>(Option.bind (fE U c (256:Int)) λd=>(bK (kU a b) U (d,(0:Int)))))else(nP e (a.2))
def oF (U:Nat) (b:CM) (c:Int):Option sH:=
 Option.bind (fE U (wI .i64 (b.1 - (1:Int))) c) λa=>(ck (0<=(wI .i64 ((1:Int)+a))∧(wI .i64 ((1:Int)+a))<=1099511627) (bK (iV U b a) U ((0:Int),([]:aP))))
theorem acd:aT Tryz.prog 47:=Tryz.call47
theorem El (U:Nat) {d:CM} {S:Int} (y:Value)  (z:Value)  (u:Value) (r:DD) (h:oF U d S=some r):
  aY Tryz.prog 47 #[Value.agg #[vI (d.1),y,z,u,vB (d.2.2.2.2.1),vB (d.2.2.2.2.2)],vI (S)] [Sl bP y d.2.1,Sl bP z d.2.2.1,Sl bP u d.2.2.2.1] (λx:Value×Value×List Value=>Value.agg #[x.1,x.2.1]) (λx l=>Ar b_ x.1 r.1::Ar cO.raw x.2.1 x.2.2::kN bT x.2.2 r.2::l) (λ_ l=>l):=by
 refine aY.of Tryz.func47 Z Tryz.ntmps47 Z λc=>?_;refine aU<|aG (aL.box (cs:=[vI (d.1),y,z,u,vB (d.2.2.2.2.1),vB (d.2.2.2.2.2)]) Z Z) Z λt=>aG (aL.alloc (cs:=[lC,lC]) Z Z) Z λq=>aM<|aU<|bU Z<|dL 1 Z<|aC (nW Z Z) Z<|aA Z<|fN h λb W h=>aG (aL.callQ BJ (jL U  b W) Z .nil) Z λx5=>cP Z<|aD Z<|aM<|aU<|aA Z<|dH h λT h=>jD (xT bT (Int.toNat (wI .i64 ((1:Int)+b))))<|aG (pM (e:=cO.raw) (lC) Z Z Z Z T Z Z Z) Z λn=>bX (Know.one (aE.sl (bS (i:=0) (j:=1) Z Z bR))) λK=>?_;refine aC (Vk (r:=Value.agg #[lC,n]) Z (by intro w;simp[Instr.build,Instr.fill,eL,dU,dC,eM,eN,dV,f_,fJ K])) Z ?_;refine aG (aL.alloc (cs:=[lC,lC]) Z Z) Z λs=>bX (Know.one (aE.sl (bS (i:=1) (j:=2) Z Z bR))) λE=>bQ 0 (vs:=[lC,n]) Z Z (kR Z (kR E Z)) Z Z Z<|aM<|aJ<|Ei (B:=Value) (λp=>nP b p=some r) (λp o=>[(4,vP q),(6,vP s)]) (λp o=>[bV s [o,n] 29,Ar cO.raw n (List.replicate (Int.toNat (wI .i64 ((1:Int)+b))) (lC)),kN bT (List.replicate (Int.toNat (wI .i64 ((1:Int)+b))) (lC)) (List.replicate (Int.toNat (wI .i64 ((1:Int)+b))) ([]:eW)),bV q [lC,lC] 29,Ar b_ o p]) ?_ ?_
 ·refine aU<|aD Z<|aM<|aV<|jD (iC b_)<|e_ (B:=Value) (iV U d b) (λa f=>[(2,vP t),(4,vP q),(5,vI (wI .i64 ((1:Int)+b))),(6,vP s),(7,vI (a.1))]) (λa f=>[bV s [f,n] 29,Ar cO.raw n (List.replicate (Int.toNat (wI .i64 ((1:Int)+b))) (lC)),kN bT (List.replicate (Int.toNat (wI .i64 ((1:Int)+b))) (lC)) (List.replicate (Int.toNat (wI .i64 ((1:Int)+b))) ([]:eW)),bV q [lC,lC] 29,bV t [vI (d.1),y,z,u,vB (d.2.2.2.2.1),vB (d.2.2.2.2.2)] 24,Ar b_ f a.2]) ((0:Int),([]:aP)) (lC) h SF (aZ.ix [1,2,3,4,5,0] Z Z) ?_;intro v a f h;refine aJ<|aU<|aA Z<|aA Z<|cX Z<|aM ?_;refine fC h Z (λh=>?_) λh=>?_
  ·refine cV<|aJ<|aV<|aU<|bU Z<|dL 4 Z<|aA Z<|fN h λO Q h=>aG (aL.callQ IV (Ap U u O Q) Z (qB [2] Z)) Z λX=>fN h λJ R h=>aG (aL.callQ BJ (jL U  J R) Z .nil) Z λY=>aD Z<|aM<|aJ<|fF (λg=>qV a (bK (iV U d b) v) g=some r) (λg A=>[(2,vP t),(4,vP q),(5,vI (wI .i64 ((1:Int)+b))),(6,vP s),(7,vI (a.1)),(8,vI (g))]) (λg A=>[bV s [f,n] 29,Ar cO.raw n (List.replicate (Int.toNat (wI .i64 ((1:Int)+b))) (lC)),kN bT (List.replicate (Int.toNat (wI .i64 ((1:Int)+b))) (lC)) (List.replicate (Int.toNat (wI .i64 ((1:Int)+b))) ([]:eW)),bV q [lC,lC] 29,bV t [vI (d.1),y,z,u,vB (d.2.2.2.2.1),vB (d.2.2.2.2.2)] 24,Ar b_ f a.2]) ?_ ?_
   ·refine aU<|aD Z<|aM<|aV<|e_ (kU a (bK (iV U d b) v)) (λk C=>[(2,vP t),(4,vP q),(5,vI (wI .i64 ((1:Int)+b))),(6,vP s),(7,vI (a.1)),(8,vI (k.1)),(9,vI (k.2))]) (λk C=>[bV s [f,n] 29,Ar cO.raw n (List.replicate (Int.toNat (wI .i64 ((1:Int)+b))) (lC)),kN bT (List.replicate (Int.toNat (wI .i64 ((1:Int)+b))) (lC)) (List.replicate (Int.toNat (wI .i64 ((1:Int)+b))) ([]:eW)),bV q [lC,lC] 29,bV t [vI (d.1),y,z,u,vB (d.2.2.2.2.1),vB (d.2.2.2.2.2)] 24,Ar b_ f a.2]) (J,(0:Int)) () h SF (aZ.refl _) ?_;intro N k C h;refine aJ<|aU<|aA Z<|aA Z<|cX Z<|aM ?_;refine fC h Z (λh=>?_) λh=>?_
    ·refine cV<|aJ<|fF (λm=>kT (bK (kU a (bK (iV U d b) v)) N) m=some r) (λm D=>[(2,vP t),(4,vP q),(5,vI (wI .i64 ((1:Int)+b))),(6,vP s),(7,vI (a.1)),(8,vI (m.1)),(9,vI (m.2))]) (λm D=>[bV s [f,n] 29,Ar cO.raw n (List.replicate (Int.toNat (wI .i64 ((1:Int)+b))) (lC)),kN bT (List.replicate (Int.toNat (wI .i64 ((1:Int)+b))) (lC)) (List.replicate (Int.toNat (wI .i64 ((1:Int)+b))) ([]:eW)),bV q [lC,lC] 29,bV t [vI (d.1),y,z,u,vB (d.2.2.2.2.1),vB (d.2.2.2.2.2)] 24,Ar b_ f a.2]) ?_ ?_
     ·refine aV<|aU<|bU Z<|dL 0 Z<|aA Z<|dH h λI h=>aC (bB Z Z (bD (aE.res 5 Z) cZ) Z Z I) Z<|aC (bY Z (bD (aE.res 5 Z) cZ) Z Z Z dJ I) Z<|aA Z<|cN Z<|aM ?_;refine fC h Z (λh=>?_) λh=>?_
      ·refine aR<|aA Z<|cP Z<|dH h λM h=>aC (NM Z Z M) Z<|aD Z<|aD Z<|eR<|o_ ?_;exact jP ((Int.tmod (wI .i64 (k.1+(1:Int))) (256:Int)),(-1:Int)) () h SF Z
      refine dX<|o_ ?_;exact jP (k.1,k.2) () h SF Z
     intro m D h;unfold kT at h;refine aR<|aA Z<|cP Z<|aD Z<|aM ?_;exact AT (m.1,(wI .i64 (m.2+(1:Int)))) () h SF Z
    refine gK ?_;exact jP (k.1) () h SF Z
   intro g A h;refine aR<|bU Z<|dL 0 Z<|aA Z<|aG (bZ (e:=b_) ([g]) [(0,vI (g))] Z Z Z Z (nQ (vI (g)) Z) Z Z Z) Z λV=>dH h λL h=>aG (eJ 6 cZ Z Z Z (bD (aE.res 0 Z) cZ) Z Z Z Z L Z) Z λP=>bU Z<|bX (Know.one ((bD (aE.res 6 Z) cZ))) λH=>gY 1 Z Z H Z Z Z<|eR<|o_<|aR<|aA Z<|cP Z<|aD Z<|aM ?_;exact nM ((wI .i64 (a.1+(1:Int))),(a.2++[g])) (P) h SF (aZ.ix [1,2,3,4,5,6] Z Z) (aF.refl _ _)
  refine gK ?_;exact cU (a.2) (f) h SF (aZ.ix [0,1,2,3,5] Z Z) (aF.refl _ _)
 intro p o h;unfold nP at h;refine aU<|fG 0 Z<|bX (Know.one ((bD (aE.res 4 Z) cZ))) λF=>bX (Know.one (aE.sl (bS (i:=1) (j:=2) Z Z bR))) λG=>bQ 3 (vs:=[o,n]) Z Z (kR F (kR G Z)) Z Z Z<|aM<|aS ?_;cases h;exact iI (o,n,(List.replicate (Int.toNat (wI .i64 ((1:Int)+b))) (lC))) Z Z (RV.cell 3 Z Z Z Z) (aZ.ix [4,1,2] Z Z) aF.nil
def oB (b:DD) (a:gE):Option sH:=
 some ((b.1,a))
def sJ (U:Nat) (b:CM) (i:DD) (a:Int×gE) (c:(Int×gE)->Option sH):Option sH:=
 if a.1<(List.length a.2:Int)then(Option.bind (rD U b.2.1 (wI .i64 (a.1 - (1:Int)))) λd=>(Option.bind (fE U d a.1) λe=>(Option.bind (rD U b.2.2.1 (wI .i64 (a.1 - (1:Int)))) λf=>(Option.bind (fE U f (15:Int)) λg=>(Option.bind (mI U ((b.1,b.2.1,b.2.2.1,b.2.2.2.1,b.2.2.2.2.1,b.2.2.2.2.2)) ((i.1,a.2)) e a.1 (wI .i64 ((1:Int)+g))) λh=>(c ((wI .i64 (a.1+(1:Int))),h)))))))else(oB i (a.2))
def mH (U:Nat) (a:CM) (c:Int):Option sH:=
 Option.bind (oF U ((a.1,a.2.1,a.2.2.1,a.2.2.2.1,a.2.2.2.2.1,a.2.2.2.2.2)) c) λb=>(bK (sJ U a b) U ((1:Int),b.2))
theorem VB:aT Tryz.prog 26:=Tryz.call26
theorem Al (U:Nat) {p0:CM} {p1:Int} (g:Value)  (k:Value)  (n:Value) (r:DD) (h:mH U p0 p1=some r):
  aY Tryz.prog 26 #[Value.agg #[vI (p0.1),g,k,n,vB (p0.2.2.2.2.1),vB (p0.2.2.2.2.2)],vI (p1)] [Sl bP g p0.2.1,Sl bP k p0.2.2.1,Sl bP n p0.2.2.2.1] (λx:Value×Value×List Value=>Value.agg #[x.1,x.2.1]) (λx l=>Ar b_ x.1 r.1::Ar cO.raw x.2.1 x.2.2::kN bT x.2.2 r.2::l) (λ_ l=>l):=by
 refine aY.of Tryz.func26 Z Tryz.ntmps26 Z λc=>?_;refine aU<|aG (aL.box (cs:=[vI (p0.1),g,k,n,vB (p0.2.2.2.2.1),vB (p0.2.2.2.2.2)]) Z Z) Z λu=>aG (aL.alloc (cs:=[lC,lC]) Z Z) Z λo=>aM<|aU<|fG 1 Z<|aA Z<|fN h λm P h=>aG (aL.callQ acd (El U g k n m P) Z (qB [0,1,2] Z)) Z λa=>aG (aL.alloc (cs:=[lC,lC]) Z Z) Z λp=>bX (Know.one ((bD (aE.res 1 Z) cZ))) λv=>bX (Know.one (aE.sl (bS (i:=2) (j:=3) Z Z bR))) λw=>bQ 0 (vs:=[a.1,a.2.1]) Z Z (kR v (kR w Z)) Z Z Z<|aM<|aJ<|Ei (B:=fM) (λe=>oB m e=some r) (λe f=>[(4,vP o),(5,vP p)]) (λe f=>[bV p [a.1,a.2.1] 29,Ar b_ a.1 m.1,Ar cO.raw a.2.1 f,kN bT f e,bV o [lC,lC] 29]) ?_ ?_
 ·refine aU<|aD Z<|aM<|aV<|e_ (B:=fM) (sJ U p0 m) (λd b=>[(2,vP u),(4,vP o),(5,vP p),(6,vI (d.1))]) (λd b=>[bV p [a.1,a.2.1] 29,Ar b_ a.1 m.1,Ar cO.raw a.2.1 b,kN bT b d.2,bV o [lC,lC] 29,bV u [vI (p0.1),g,k,n,vB (p0.2.2.2.2.1),vB (p0.2.2.2.2.2)] 24]) ((1:Int),m.2) (a.2.2) h SF (aZ.refl _) ?_;intro O d b h;refine aJ<|aU<|aA Z<|bU Z<|dL 0 Z<|aC (jW Z (bS (i:=2) (j:=3) Z Z bR) Z) Z<|cX Z<|aM ?_;refine fC h Z (λh=>?_) λh=>?_
  ·refine cV<|aJ<|aV ?_;refine JR.start [0,0,0,4,0,16,60,0,252,0,0,1024,0,4096,15868,32252,65020,131071] 17 mixedOrders (by decide +kernel) ?_;refine JR.open (by exact rfl) ?_;refine pG 5 Z<|pG 0 Z<|cY Z<|jO 5 Z<|bG Z<|iH Z (nW Z Z)<|fN h λy E h=>JR.loud Z Z Z (aL.callQ IV (Ap U g y E) Z (qB [0] Z)) Z (λJ=>(uZ [([0],[]),([5],[])] Z)) λJ=>iH Z (fZ Z)<|fN h λA F h=>JR.loud Z Z Z (aL.callQ BJ (jL U  A F) Z .nil) Z (λK=>(uZ [([0],[]),([5],[])] Z)) λK=>iH Z (fZ Z)<|iH Z (eT Z Z Z Z Z)<|bJ Z (aZ.cons 5 Z .nil) .nil (gV 0 Z Z Z Z Z) (aK.h (aZ.ix [5] Z Z) .nil (aK.h (aZ.ix [5] Z Z) .nil aK.z))<|iH Z (fZ Z)<|iH Z (nW Z Z)<|fN h λC G h=>JR.loud Z Z Z (aL.callQ IV (Ap U k C G) Z (qB [1] Z)) Z (λL=>(uZ [([0],[]),([5],[])] Z)) λL=>fN h λD H h=>JR.loud Z Z Z (aL.callQ BJ (jL U  D H) Z .nil) Z (λM=>(uZ [([0],[]),([5],[])] Z)) λM=>iH Z (uD Z Z)<|bN 17 Z Z<|fN h λt I h=>aG (ED (Min:=[Ar cO.raw a.2.1 b,kN bT b d.2]) (Mr:=[bV p [a.1,a.2.1] 29,Ar b_ a.1 m.1,bV o [lC,lC] 29,bV u [vI (p0.1),g,k,n,vB (p0.2.2.2.2.1),vB (p0.2.2.2.2.2)] 24]) VE (Am U g k n a.1 a.2.1 b t I) Z (aZ.ix [2,3,0,1,4,5] Z Z) (aF.cons (aE.fact 0 Z) (aF.cons (aE.fact 1 Z) (aF.cons (aE.fact 2 Z) (aF.cons (bD (aE.res 1 Z) cZ) .nil)))) (λ_ _=>rfl)) Z λN=>eR<|o_<|aR<|aA Z<|cP Z<|aD Z<|aM ?_;exact nM ((wI .i64 (d.1+(1:Int))),t) (N) h SF (aZ.ix [2,3,0,1,4,5] Z Z) (aF.refl _ _)
  refine gK ?_;exact cU (d.2) (b) h SF (aZ.ix [0,1,2,3,4] Z Z) (aF.refl _ _)
 intro e f h;unfold oB at h;refine aU<|fG 0 Z<|bX (Know.one ((bD (aE.res 1 Z) cZ))) λq=>bX (Know.one (aE.sl (bS (i:=2) (j:=3) Z Z bR))) λs=>bQ 4 (vs:=[a.1,a.2.1]) Z Z (kR q (kR s Z)) Z Z Z<|aM<|aS ?_;cases h;exact iI (a.1,a.2.1,f) Z Z (RV.cell 4 Z Z Z Z) (aZ.ix [1,2,3] Z Z) aF.nil
def jH (U:Nat) (a:Int):Option (Int):=
 if a=(0:Int)then(some (32:Int))else(ck (0<=(27:Int)) (ck ((0<=(qW .u32 (wI .u32 ((dK .u32 a (wI .u32 (0 - a)))*(125613361:Int))) (27:Int))∧(qW .u32 (wI .u32 ((dK .u32 a (wI .u32 (0 - a)))*(125613361:Int))) (27:Int))<((32:Nat):Int))∧List.length wD=32) (some (wI .i64 (at' wD (qW .u32 (wI .u32 ((dK .u32 a (wI .u32 (0 - a)))*(125613361:Int))) (27:Int)))))))
theorem RR:aT Tryz.prog 150:=Tryz.call150
theorem wC (U:Nat) {b:Int} (r:Int) (h:jH U b=some r):
  aY Tryz.prog 150 #[vU (b)] [Gb 0 (cellsOf Hl wD)] (λx:Unit=>vI (r)) (λx l=>l) (λ_ l=>l):=by
 refine aY.of Tryz.func150 Z Tryz.ntmps150 Z λc=>?_;refine aU<|aD Z<|aM<|aJ<|aU<|aA Z<|cN Z<|aM ?_;refine fC h Z (λh=>?_) λh=>?_
 ·refine aU<|aD Z<|aM<|aS<|aI ?_;cases h;exact lI Z
 refine cV<|aU<|aA Z<|aA Z<|aC (RF Z) Z<|yR Z<|aC (AS Z Z) Z<|dH h λd h=>aC (KA Z Z d) Z<|dH h λa h=>aC (NI Z Z Z Z Z a.1) Z<|aC (TC (e:=Hl) Z (aE.fact 0 Z) Z Z Z Z a) Z<|aC (Qf Z Z Z) Z<|aD Z<|aM<|aS ?_;cases h;exact lI Z
def jA  (a:Unit):Option (Bool):=
 some (true)
def fS (U:Nat) (d:aP) (e:Int) (a:Int) (c:(Int)->Option (Bool)):Option (Bool):=
 if a≠(0:Int)then(Option.bind (jH U a) λb=>(ck (0<=b∧b<(List.length d:Int)) (if(dK .u32 (at' d b) e)≠(0:Int)then(some (false))else(c (dK .u32 a (wI .u32 (a - (1:Int))))))))else(jA  (()))
def lO (U:Nat) (c:aP) (a:Int) (b:Unit):Option (Bool):=
 bK (fS U c a) U (a)
def gN (U:Nat) (a:aP) (b:Int):Option (Bool):=
 lO U a b (())
theorem Zo:aT Tryz.prog 144:=Tryz.call144
theorem Ak (U:Nat) {m:aP} {e:Int} (j:Value) (r:Bool) (h:gN U m e=some r):
  aY Tryz.prog 144 #[j,vU (e)] [Sl yD j m,Gb 0 (cellsOf Hl wD)] (λx:Unit=>vB (r)) (λx l=>l) (λ_ l=>l):=by
 refine aY.of Tryz.func144 Z Tryz.ntmps144 Z λc=>?_;unfold gN at h;refine jD NC<|aU<|bX (Know.one ((aE.fact 0 Z))) λw=>?_;refine aG (aL.box (cs:=[j]) Z (by rw[fJ w])) Z λC=>?_;refine aG (aL.box (cs:=[vU (e)]) Z Z) Z λD=>aG (aL.alloc (cs:=[vB (false)]) Z Z) Z λu=>aM<|aJ<|PV (A:=Unit) (B:=pF) (λk g=>⟨16,Jz g⟩) (λk=>jA  k=some r) (λk g=>[(4,vP u)]) (λk g=>[bV u [vB (false)] 4,LB g]) (λk g=>[Sl yD j m,Gb 0 (cellsOf Hl wD)]) ?_ ?_
 ·refine aU<|dL 1 Z<|AQ (A:=Unit) (B:=Nat) (vs:=[vU (e)]) (λb=>lO U m e b=some r) (λb a=>Value.func (.func 149) #[] #[vP a]) (λb a=>[bV a [vU (e)] 25,bV u [vB (false)] 4,bV D [vU (e)] 25,bV C [j] 94,LB ([]:pF)]) (λb a=>[Sl yD j m,Gb 0 (cellsOf Hl wD)]) (sS.fn (show aT Tryz.prog 115 from Tryz.call115) Z) Tryz.func115 Z Tryz.ntmps115 Z Z ?_ ?_
  ·refine aU<|aG (aL.box (cs:=[vU (e)]) Z Z) Z λo=>aD Z<|aM<|aU<|aC (wR (cs:=[.tmp 1]) (vs:=[vP o]) Z) Z<|aD Z<|aM<|aS ?_;exact uC () (o) h (.inl Z) (Gw.r1 Z (RV.tmp Z)) Z (aZ.refl _) (aF.refl _ _)
  intro b a h;unfold lO at h;refine aM<|aV<|Fh (i:=4) (cs:=[vP a]) ([]:pF) Z (show aT Tryz.prog 149 from Tryz.call149) Z Tryz.func149 Z Tryz.ntmps149 Z λs f v p=>aV<|e_ (fS U m e) (λd n=>[(0,wE s),(1,vP a)]) (λd n=>[Lp s v LoopState.ready none,bV a [vU (d)] 25,bV u [vB (false)] 4,bV D [vU (e)] 25,bV C [j] 94,LB (List.cons f ([]:pF))]) (e) () h SF (aZ.refl _) ?_;intro E d n h;refine aJ<|aU<|dL 1 Z<|pI Z<|aM ?_;refine fC h Z (λh=>?_) λh=>?_
  ·refine cV<|aJ<|aV<|aU<|aA Z<|dL 1 Z<|fN h λt y h=>aG (aL.callQ RR (wC U  t y) Z (qB [1] Z)) Z λF=>Nk (us:=[vI (t)]) (i:=0) p Z Z Z Z Z Z<|aR<|aD Z<|aM<|Ry (i:=0) Z<|aV<|aJ ?_;refine JR.start [0,0,3,7,0,31,63] 5 mixedOrders (by decide +kernel) ?_;refine JR.open (by exact rfl) ?_;refine jO 4 Z<|bG Z<|dH h λq h=>bJ Z .nil (nA 0 Z) (bB Z Z (aE.fact 0 Z) Z Z q) aK.z<|bJ Z .nil (nA 0 Z) (bY Z (aE.fact 0 Z) Z Z Z Gv q) aK.z<|jO 3 Z<|bN 5 Z Z<|yR Z<|pI Z<|aM ?_;refine fC h Z (λh=>?_) λh=>?_
   ·refine aU<|gY 2 Z Z Z Z Z Z<|aM<|aS<|bM<|UU (i:=0) Z<|aC (sV Z) Z<|aM<|Rz Z<|aS<|bM<|aI<|aI<|bM<|YE (i:=0) (.inl Z) Z (Gw.r0 Z)<|bM<|aI<|qS (i:=5) (Ds:=(List.cons f ([]:pF))) (.inl Z) Z ?_;cases h;exact iI () Z Z (Nw 2 Z Z Z Z) .nil aF.nil
   refine dX<|UP<|ID (i:=0) Z<|aC (sV Z) Z<|aM<|HX Z<|dX<|o_<|aR<|dL 1 Z<|dL 1 Z<|aC (nW Z Z) Z<|yR Z<|gY 1 Z Z Z Z Z Z<|aM ?_;exact AT (dK .u32 d (wI .u32 (d - (1:Int)))) () h SF Z
  refine u_<|gU<|gU<|Az<|UT (i:=0) (.inr Z) Z (Gw.r0 Z)<|o_ ?_;exact HY () (List.cons f ([]:pF)) Z h SF (aZ.ix [2,5] Z Z) (aF.refl _ _)
 intro k g h;unfold jA at h;refine aU<|gY 0 Z Z Z Z Z Z<|aM<|aS<|qS (i:=1) (Ds:=(g)) (.inl Z) Z ?_;cases h;exact iI () Z Z (Nw 0 Z Z Z Z) .nil aF.nil
def lF (U:Nat) (d:aP) (b:Int) (e:Int) (a:Int) (c:Bool):Option (Bool):=
 if c=true then(some (false))else(if b=(1:Int)then(some (decide ((dK .u32 a (wI .u32 (a - (1:Int))))=(0:Int))))else(if b=(2:Int)then(Option.bind (gN U d a) λf=>(some (f)))else(if b=(4:Int)then(some (decide (a=e)))else(some (true)))))
def eZ (U:Nat) (c:aP) (d:Int) (b:Int) (a:Int):Option (Bool):=
 if a=(0:Int)then(lF U c d b a (true))else(lF U c d b a (decide ((tH .u32 a b)≠(0:Int))))
theorem RN:aT Tryz.prog 112:=Tryz.call112
theorem wA (U:Nat) {p0:aP} {p1:Int} {p2:Int} {p3:Int} (b:Value) (r:Bool) (h:eZ U p0 p1 p2 p3=some r):
  aY Tryz.prog 112 #[b,vI (p1),vU (p2),vU (p3)] [Sl yD b p0,Gb 0 (cellsOf Hl wD)] (λx:Unit=>vB (r)) (λx l=>l) (λ_ l=>l):=by
 refine aY.of Tryz.func112 Z Tryz.ntmps112 Z λc=>?_;refine aU<|aD Z<|aM<|aJ<|aJ<|fF (λa=>lF U p0 p1 p2 p3 a=some r) (λa d=>[(0,b),(1,vI (p1)),(2,vU (p2)),(3,vU (p3)),(16,vB (a))]) (λa d=>[]) ?_ ?_
 ·refine aR<|aA Z<|cN Z<|aA Z ?_;refine EN h Z (λ_ h=>?_) λ_ h=>?_
  ·refine aN Z<|aN Z<|aN Z<|aN Z<|fK Z<|aM ?_;exact jP (true) () h SF Z
  refine eX Z<|eX Z<|aW Z (IS Z Z) Z<|aW Z (CU Z Z) Z<|iL Z<|aM ?_;exact jP (decide ((tH .u32 p3 p2)≠(0:Int))) () h SF Z
 intro a d h;refine Bm h Z (λ_ h=>?_) λ_ h=>?_
 ·refine aU<|aD Z<|aM<|aS<|aI ?_;cases h;exact lI Z
 refine cV<|aJ<|aU<|aA Z<|aM<|aV<|aU<|cN Z<|aD Z<|aM ?_;refine fC h Z (λh=>?_) λh=>?_
 ·refine aU<|aA Z<|aA Z<|aC (nW Z Z) Z<|yR Z<|cN Z<|aD Z<|aM<|aS<|bM<|aI ?_;cases h;exact lI Z
 refine aU<|cN Z<|aD Z<|aM ?_;refine fC h Z (λh=>?_) λh=>?_
 ·refine aU<|aA Z<|aA Z<|fN h λe f h=>aG (aL.callQ Zo (Ak U b e f) Z (qB [0,1] Z)) Z λg=>aD Z<|aM<|aS<|bM<|aI ?_;cases h;exact lI Z
 refine aU<|cN Z<|aD Z<|aM ?_;refine fC h Z (λh=>?_) λh=>?_
 ·refine aU<|aA Z<|aA Z<|cN Z<|aD Z<|aM<|aS<|bM<|aI ?_;cases h;exact lI Z
 refine dX<|o_<|aU<|aD Z<|aM<|aS ?_;cases h;exact lI Z
def lG  (a:Int):Option (Int):=
 some (a)
def iU (a:fH) (b:i_->Option (Int)) (c:Int):Option (Int):=
 b ((dK .u32 a.1 (wI .u32 (a.1 - (1:Int)))),c)
def dR (U:Nat) (d:aP) (a:fH) (c:i_->Option (Int)):Option (Int):=
 if a.1≠(0:Int)then(Option.bind (jH U a.1) λb=>(ck (0<=b∧b<(List.length d:Int)) (if(dK .u32 (at' d b) a.2)=(0:Int)then(ck (0<=b) (iU a c (LX .u32 a.2 (BG .u32 (1:Int) b))))else(iU a c (a.2)))))else(lG  (a.2))
def oM (U:Nat) (c:aP) (b:Int) (a:Unit):Option (Int):=
 bK (dR U c) U (b,(0:Int))
def iS (U:Nat) (c:aP) (b:Int) (d:Int) (a:Int):Option (Int):=
 if b=(1:Int)then(some (dK .u32 a (wI .u32 (0 - a))))else(if b=(2:Int)then(oM U c a (()))else(if b=(4:Int)then(some (d))else(some (a))))
def eG (U:Nat) (b:aP) (c:Int) (a:Int) (d:Int):Option (Int):=
 if(dK .u32 d a)=(0:Int)then(iS U b c a (dK .u32 a (wI .u32 (0 - a))))else(iS U b c a (dK .u32 d a))
theorem VL:aT Tryz.prog 83:=Tryz.call83
theorem wB (U:Nat) {p0:aP} {p1:Int} {p2:Int} {p3:Int} (k:Value) (r:Int) (h:eG U p0 p1 p2 p3=some r):
  aY Tryz.prog 83 #[k,vI (p1),vU (p2),vU (p3)] [Sl yD k p0,Gb 0 (cellsOf Hl wD)] (λx:Unit=>vU (r)) (λx l=>l) (λ_ l=>l):=by
 refine aY.of Tryz.func83 Z Tryz.ntmps83 Z λc=>?_;refine jD NC<|aU<|bX (Know.one ((aE.fact 0 Z))) λD=>?_;refine aG (aL.box (cs:=[k]) Z (by rw[fJ D])) Z λq=>?_;refine aD Z<|aM<|aU<|aA Z<|aA Z<|yR Z<|aD Z<|aM<|aJ<|PV (A:=Int) (B:=Unit) (λg C=>⟨48,Jz ([]:pF)⟩) (λg=>iS U p0 p1 p2 g=some r) (λg C=>[(1,vI (p1)),(2,vU (p2)),(3,vU (g)),(4,vP q),(8,vU (0:Int))]) (λg C=>[bV q [k] 94,LB ([]:pF)]) (λg C=>[Sl yD k p0,Gb 0 (cellsOf Hl wD)]) ?_ ?_
 ·refine aU<|aA Z<|cN Z<|aM ?_;refine fC h Z (λh=>?_) λh=>?_
  ·refine aR<|aA Z<|aA Z<|aC (RF Z) Z<|yR Z<|aD Z<|aM ?_;exact HY (dK .u32 p2 (wI .u32 (0 - p2))) () Z h SF (aZ.refl _) (aF.refl _ _)
  refine cV ?_;exact HY (dK .u32 p3 p2) () Z h SF (aZ.refl _) (aF.refl _ _)
 intro g C h;refine aJ<|aU<|aA Z<|aM<|aV<|aU<|cN Z<|aD Z<|aM ?_;refine fC h Z (λh=>?_) λh=>?_
 ·refine aU<|aA Z<|aA Z<|aC (RF Z) Z<|yR Z<|aD Z<|aM<|aS<|bM<|aI<|qS (i:=1) (Ds:=([]:pF)) (.inl Z) Z ?_;cases h;exact vZ Z
 refine aU<|cN Z<|aD Z<|aM ?_;refine fC h Z (λh=>?_) λh=>?_
 ·refine aU<|aG (aL.alloc (cs:=[vU (0:Int)]) Z Z) Z λv=>gY 0 Z Z Z Z Z Z<|aM<|aJ<|PV (A:=Int) (B:=pF) (λd e=>⟨48,Jz e⟩) (λd=>lG  d=some r) (λd e=>[(9,vP v)]) (λd e=>[bV v [vU (d)] 25,LB e]) (λd e=>[Sl yD k p0,Gb 0 (cellsOf Hl wD)]) ?_ ?_
  ·refine aU<|aA Z<|AQ (A:=Unit) (B:=Nat) (vs:=[vU (g)]) (λj=>oM U p0 g j=some r) (λj b=>Value.func (.func 149) #[] #[vP b]) (λj b=>[bV b [vU (g)] 25,bV v [vU (0:Int)] 25,bV q [k] 94,LB ([]:pF)]) (λj b=>[Sl yD k p0,Gb 0 (cellsOf Hl wD)]) (sS.fn (show aT Tryz.prog 115 from Tryz.call115) Z) Tryz.func115 Z Tryz.ntmps115 Z Z ?_ ?_
   ·refine aU<|aG (aL.box (cs:=[vU (g)]) Z Z) Z λu=>aD Z<|aM<|aU<|aC (wR (cs:=[.tmp 1]) (vs:=[vP u]) Z) Z<|aD Z<|aM<|aS ?_;exact uC () (u) h (.inl Z) (Gw.r1 Z (RV.tmp Z)) Z (aZ.refl _) (aF.refl _ _)
   intro j b h;unfold oM at h;refine aM<|aV<|Fh (i:=3) (cs:=[vP b]) ([]:pF) Z (show aT Tryz.prog 149 from Tryz.call149) Z Tryz.func149 Z Tryz.ntmps149 Z λm n p w=>aV<|e_ (dR U p0) (λa s=>[(0,wE m),(1,vP b)]) (λa s=>[Lp m p LoopState.ready none,bV b [vU (a.1)] 25,bV v [vU (a.2)] 25,bV q [k] 94,LB (List.cons n ([]:pF))]) (g,(0:Int)) () h SF (aZ.refl _) ?_;intro F a s h;refine aJ<|aU<|dL 1 Z<|pI Z<|aM ?_;refine fC h Z (λh=>?_) λh=>?_
   ·refine cV<|aJ<|fF (λf=>iU a (bK (dR U p0) F) f=some r) (λf t=>[(0,wE m),(1,vP b)]) (λf t=>[Lp m p LoopState.ready none,bV b [vU (a.1)] 25,bV v [vU (f)] 25,bV q [k] 94,LB (List.cons n ([]:pF))]) ?_ ?_
    ·refine aV<|aU<|aA Z<|dL 1 Z<|fN h λo G h=>aG (aL.callQ RR (wC U  o G) Z (qB [1] Z)) Z λH=>Nk (us:=[vI (o)]) (i:=0) w Z Z Z Z Z Z<|aR<|aD Z<|aM<|Ry (i:=0) Z<|aV<|aJ ?_;refine JR.start [0,0,3,7,0,31,63] 5 mixedOrders (by decide +kernel) ?_;refine JR.open (by exact rfl) ?_;refine jO 3 Z<|bG Z<|dH h λy h=>bJ Z .nil (nA 0 Z) (bB Z Z (aE.fact 0 Z) Z Z y) aK.z<|bJ Z .nil (nA 0 Z) (bY Z (aE.fact 0 Z) Z Z Z Gv y) aK.z<|jO 2 Z<|bN 5 Z Z<|yR Z<|cN Z<|aM ?_;refine fC h Z (λh=>?_) λh=>?_
     ·refine JR.start [0,0,2,7,15] 3 mixedOrders (by decide +kernel) ?_;refine JR.open (by exact rfl) ?_;refine jO 2 Z<|bG Z<|dH h λE h=>iH Z (NN Z Z E)<|bN 3 Z Z<|aC (YR Z Z) Z<|gY 2 Z Z Z Z Z Z<|eR<|UP<|ID (i:=0) Z<|aC (sV Z) Z<|aM<|HX Z<|dX<|o_ ?_;exact jP (LX .u32 a.2 (BG .u32 (1:Int) o)) () h SF Z
     refine dX<|UP<|ID (i:=0) Z<|aC (sV Z) Z<|aM<|HX Z<|dX<|o_ ?_;exact jP (a.2) () h SF Z
    intro f t h;unfold iU at h;refine aR<|dL 1 Z<|dL 1 Z<|aC (nW Z Z) Z<|yR Z<|gY 1 Z Z Z Z Z Z<|aM ?_;exact AT ((dK .u32 a.1 (wI .u32 (a.1 - (1:Int)))),f) () h SF Z
   refine u_<|gU<|gU<|Az<|UT (i:=0) (.inr Z) Z (Gw.r0 Z)<|o_ ?_;exact HY (a.2) (List.cons n ([]:pF)) Z h SF (aZ.ix [2,4] Z Z) (aF.refl _ _)
  intro d e h;unfold lG at h;refine aU<|dL 0 Z<|aD Z<|aM<|aS<|bM<|aI<|qS (i:=1) (Ds:=(e)) (.inl Z) Z ?_;cases h;exact vZ Z
 refine aU<|cN Z<|aD Z<|aM ?_;refine fC h Z (λh=>?_) λh=>?_
 ·refine aU<|aA Z<|aD Z<|aM<|aS<|bM<|aI<|qS (i:=1) (Ds:=([]:pF)) (.inl Z) Z ?_;cases h;exact vZ Z
 refine dX<|o_<|aU<|aA Z<|aD Z<|aM<|aS<|qS (i:=1) (Ds:=([]:pF)) (.inl Z) Z ?_;cases h;exact vZ Z
def tP  (a:aP):Option aP:=
 some (a)
def p_ (c:Int×aP×aP) (b:(Int×aP×aP)->Option aP) (a:aP×aP):Option aP:=
 b ((wI .i64 (c.1+(1:Int))),a.1,a.2)
def qA (c:cQ) (b:aP×aP) (e:(aP×aP)->Option aP) (a:Int×aP×aP) (d:(Int×aP×aP)->Option aP):Option aP:=
 if a.1<(List.length (at' c.2 (at' b.1 (0:Int))):Int)then(ck (0<=a.1∧a.1<(List.length (at' c.2 (at' b.1 (0:Int))):Int)) (ck (0<=((at' (at' c.2 (at' b.1 (0:Int))) a.1).1)∧((at' (at' c.2 (at' b.1 (0:Int))) a.1).1)<(List.length a.2.2:Int)) (if(at' a.2.2 ((at' (at' c.2 (at' b.1 (0:Int))) a.1).1))<(0:Int)then(ck (0<=(at' b.1 (0:Int))∧(at' b.1 (0:Int))<(List.length a.2.2:Int)) (ck (0<=((at' (at' c.2 (at' b.1 (0:Int))) a.1).1)∧((at' (at' c.2 (at' b.1 (0:Int))) a.1).1)<(List.length a.2.2:Int)) (ck ((List.length a.2.1:Int)+(List.length ([((at' (at' c.2 (at' b.1 (0:Int))) a.1).1)]):Int)<=1099511627) (p_ a d ((a.2.1++([((at' (at' c.2 (at' b.1 (0:Int))) a.1).1)])),(List.set a.2.2 (Int.toNat ((at' (at' c.2 (at' b.1 (0:Int))) a.1).1)) (wI .i64 ((at' a.2.2 (at' b.1 (0:Int)))+(1:Int)))))))))else(p_ a d (a.2.1,a.2.2)))))else(e (a.2.1,a.2.2))
def nD (U:Nat) (c:cQ) (a:aP×aP) (b:(aP×aP)->Option aP):Option aP:=
 if(0:Int)<(List.length a.1:Int)then(ck (0<=(0:Int)∧(0:Int)<(List.length a.1:Int)) (ck (0<=(1:Int)∧(1:Int)<=(List.length a.1:Int)) (ck (0<=(at' a.1 (0:Int))∧(at' a.1 (0:Int))<(List.length c.2:Int)) (bK (qA c a b) U ((0:Int),(List.drop (Int.toNat (1:Int)) a.1),a.2)))))else(tP  (a.2))
def yF (U:Nat) (c:cQ) (a:Int) (b:aP):Option aP:=
 ck (0<=a∧a<(List.length b:Int)) (bK (nD U c) U (([a]),(List.set b (Int.toNat a) (0:Int))))
def yG (U:Nat) (c:cQ) (d:Int) (a:kG) (b:qD->Option aP):Option aP:=
 if a.1<(List.length (List.replicate (Int.toNat (List.length c.2:Int)) (0:Int)):Int)then(ck (0<=a.1∧a.1<(List.length a.2:Int)) (b ((wI .i64 (a.1+(1:Int))),(List.set a.2 (Int.toNat a.1) (-1:Int)))))else(yF U c d (a.2))
def jI (U:Nat) (a:cQ) (b:Int):Option aP:=
 ck (0<=(List.length a.2:Int)∧(List.length a.2:Int)<=1099511627) (bK (yG U a b) U ((0:Int),(List.replicate (Int.toNat (List.length a.2:Int)) (0:Int))))
theorem VI:aT Tryz.prog 63:=Tryz.call63
theorem Dw (U:Nat) {d:cQ} {o:Int} (s:Value)  (t:Value)  (M:mZ) (r:aP) (h:jI U d o=some r):
  aY Tryz.prog 63 #[Value.agg #[s,t],vI (o)] [Sl bP s d.1,S2 bA t M d.2] (λx:Value=>x) (λx l=>Ar b_ x r::l) (λ_ l=>l):=by
 refine aY.of Tryz.func63 Z Tryz.ntmps63 Z λc=>?_;refine aU<|aG (aL.box (cs:=[s,t]) Z Z) Z λp=>aD Z<|aM<|aU<|bU Z<|dL 0 Z<|aC (jW Z (aE.fact 1 Z) Z) Z<|dH h λQ h=>aG (pM (e:=b_) (0:Int) Z Z Z Z Q Z Z Z) Z λk=>aD Z<|aM<|aJ<|fF (λu=>yF U d o u=some r) (λu N=>[(1,vI (o)),(2,vP p),(5,k)]) (λu N=>[Ar b_ k u,bV p [s,t] 29]) ?_ ?_
 ·refine aU<|aA Z<|aC (jC Z (bD (aE.res 0 Z) cZ) Z) Z<|aA Z<|aM<|aV<|e_ (yG U d o) (λg w=>[(1,vI (o)),(2,vP p),(5,k),(16,vI (List.length (List.replicate (Int.toNat (List.length d.2:Int)) (0:Int)):Int)),(17,vI (g.1))]) (λg w=>[Ar b_ k g.2,bV p [s,t] 29]) ((0:Int),(List.replicate (Int.toNat (List.length d.2:Int)) (0:Int))) () h SF (aZ.refl _) ?_;intro R g w h;refine aU<|cX Z<|aM<|aJ ?_;refine fC h Z (λh=>?_) λh=>?_
  ·refine cV<|aJ<|aV<|aU<|aA Z<|aD Z<|aM<|aR<|aA Z<|aA Z<|dH h λF h=>aC (bB Z Z (bD (aE.res 0 Z) cZ) Z Z F) Z<|Bg 0 (-1:Int) F Z Z Z Z Z Z Z<|eR<|o_<|aR<|cP Z<|aA Z<|aM ?_;exact AT ((wI .i64 (g.1+(1:Int))),(List.set g.2 (Int.toNat g.1) (-1:Int))) () h SF Z
  refine gK ?_;exact jP (g.2) () h SF Z
 intro u N h;refine aU<|aA Z<|aA Z<|dH h λO h=>aC (bB Z Z (bD (aE.res 0 Z) cZ) Z Z O) Z<|Bg 0 (0:Int) O Z Z Z Z Z Z Z<|aM<|aU<|aA Z<|aG (bZ (e:=b_) ([o]) [(0,vI (o))] Z Z Z Z (nQ (vI (o)) Z) Z Z Z) Z λT=>aD Z<|aM<|aJ<|fF (λm=>tP  m=some r) (λm v=>[(5,k)]) (λm v=>[Ar b_ k m]) ?_ ?_
 ·refine aV<|e_ (B:=Value) (nD U d) (λa q=>[(2,vP p),(5,k),(7,q)]) (λa q=>[Ar b_ q a.1,Ar b_ k a.2,bV p [s,t] 29]) (([o]),(List.set u (Int.toNat o) (0:Int))) (T) h SF (aZ.refl _) ?_;intro G a q h;refine aJ<|aU<|aA Z<|aC (jC Z (bD (aE.res 0 Z) cZ) Z) Z<|aC (wL Z Z) Z<|aM ?_;refine fC h Z (λh=>?_) λh=>?_
  ·refine cV<|aV<|aU<|aA Z<|dH h λy h=>aC (bB Z Z (bD (aE.res 0 Z) cZ) Z Z y) Z<|aC (bY Z (bD (aE.res 0 Z) cZ) Z Z Z dJ y) Z<|aD Z<|aM<|aU<|aA Z<|dH h λH h=>aG (Nn 0 H Z Z Z Z Z Z) Z λK=>aD Z<|aM<|aU<|bU Z<|dL 2 Z<|aA Z<|dH h λi h=>aC (cL Z Z (aE.fact 1 Z) Z Z i) Z<|aC (cT Z (aE.fact 1 Z) Z Z i) Z<|aC (jC Z (aE.el (aE.fact 1 Z) i.1 i.2) Z) Z<|aA Z<|aM<|aV<|e_ (B:=Value) (qA d a (bK (nD U d) G)) (λb j=>[(2,vP p),(5,k),(7,j),(8,vI (at' a.1 (0:Int))),(41,(at' M (at' a.1 (0:Int))).1),(42,vI (List.length (at' d.2 (at' a.1 (0:Int))):Int)),(43,vI (b.1))]) (λb j=>[Ar b_ j b.2.1,Ar b_ k b.2.2,bV p [s,t] 29]) ((0:Int),(List.drop (Int.toNat (1:Int)) a.1),a.2) (K) h SF (aZ.refl _) ?_;intro J b j h;refine aU<|cX Z<|aM<|aJ ?_;refine fC h Z (λh=>?_) λh=>?_
   ·refine cV<|aJ<|Ei (B:=Value) (λf=>p_ b (bK (qA d a (bK (nD U d) G)) J) f=some r) (λf n=>[(2,vP p),(5,k),(7,n),(8,vI (at' a.1 (0:Int))),(41,(at' M (at' a.1 (0:Int))).1),(42,vI (List.length (at' d.2 (at' a.1 (0:Int))):Int)),(43,vI (b.1))]) (λf n=>[Ar b_ n f.1,Ar b_ k f.2,bV p [s,t] 29]) ?_ ?_
    ·refine aV<|aU<|dH h λA h=>aC (bB Z Z (aE.el (aE.fact 1 Z) i.1 i.2) Z Z A) Z<|aC (jG (cs:=[vI ((at' (at' d.2 (at' a.1 (0:Int))) b.1).1),vI ((at' (at' d.2 (at' a.1 (0:Int))) b.1).2)]) Z (aE.el (aE.fact 1 Z) i.1 i.2) bR Z Z Z Z A) Z<|aG (aL.alloc (cs:=UG) Z Z) Z λP=>bQ 0 (vs:=[vI ((at' (at' d.2 (at' a.1 (0:Int))) b.1).1),vI ((at' (at' d.2 (at' a.1 (0:Int))) b.1).2)]) Z Z Z Z Z Z<|aM<|aU<|aA Z<|bU Z<|dL 0 Z<|dH h λC h=>aC (bB Z Z (bD (aE.res 2 Z) cZ) Z Z C) Z<|aC (bY Z (bD (aE.res 2 Z) cZ) Z Z Z dJ C) Z<|cX Z<|aM ?_;refine fC h Z (λh=>?_) λh=>?_
     ·refine aJ ?_;refine JR.start [0,0,2,0,0,24,56,120,255,511] 8 mixedOrders (by decide +kernel) ?_;refine JR.open (by exact rfl) ?_;refine bG Z<|cY Z<|jO 0 Z<|bG Z<|bG Z<|dH h λD h=>bJ Z (aZ.cons 2 Z .nil) .nil (bB Z Z (bD (aE.res 0 Z) cZ) Z Z D) aK.z<|bJ Z (aZ.cons 2 Z .nil) .nil (bY Z (bD (aE.res 0 Z) cZ) Z Z Z dJ D) aK.z<|iH Z (uD Z Z)<|bN 8 Z Z<|dH h λE h=>aC (bB Z Z (bD (aE.res 2 Z) cZ) Z Z E) Z<|Bg 2 (wI .i64 ((at' b.2.2 (at' a.1 (0:Int)))+(1:Int))) E Z Z Z Z Z Z Z<|aM<|aR<|aA Z<|bU Z<|dL 0 Z<|aG (bZ (e:=b_) ([((at' (at' d.2 (at' a.1 (0:Int))) b.1).1)]) [(0,vI ((at' (at' d.2 (at' a.1 (0:Int))) b.1).1))] Z Z Z Z (nQ (vI ((at' (at' d.2 (at' a.1 (0:Int))) b.1).1)) Z) Z Z Z) Z λS=>dH h λI h=>aG (eJ 2 cZ Z Z Z (bD (aE.res 0 Z) cZ) Z Z Z Z I Z) Z λL=>aD Z<|eR<|o_ ?_;exact cU ((b.2.1++([((at' (at' d.2 (at' a.1 (0:Int))) b.1).1)])),(List.set b.2.2 (Int.toNat ((at' (at' d.2 (at' a.1 (0:Int))) b.1).1)) (wI .i64 ((at' b.2.2 (at' a.1 (0:Int)))+(1:Int))))) (L) h SF (aZ.ix [2,3,4] Z Z) (aF.refl _ _)
     refine dX<|o_ ?_;exact cU (b.2.1,b.2.2) (j) h SF (aZ.ix [1,2,3] Z Z) (aF.refl _ _)
    intro f n h;unfold p_ at h;refine aR<|cP Z<|aA Z<|aM ?_;exact AT ((wI .i64 (b.1+(1:Int))),f.1,f.2) (n) h SF Z
   refine u_<|gU<|gU<|Az<|o_ ?_;exact AT (b.2.1,b.2.2) (j) h SF Z
  refine gK ?_;exact cU (a.2) () h SF (aZ.ix [1] Z Z) (aF.refl _ _)
 intro m v h;unfold tP at h;refine aU<|aA Z<|aD Z<|aM<|aS ?_;cases h;exact iI (k) Z Z (RV.tmp Z) (aZ.refl _) aF.nil
def pO  (a:Unit):Option (Bool):=
 some (true)
def kK (c:aP) (a:Int) (b:(Int)->Option (Bool)):Option (Bool):=
 if a<(List.length c:Int)then(ck (0<=a∧a<(List.length c:Int)) (if(at' c a)<(0:Int)then(some (false))else(b (wI .i64 (a+(1:Int))))))else(pO  (()))
def fV (U:Nat) (a:cQ):Option (Bool):=
 Option.bind (gQ U ((a.1,a.2))) λb=>(if(!b)=true then(some (false))else(Option.bind (jI U ((a.1,a.2)) (0:Int)) λc=>(bK (kK c) U (0:Int))))
theorem VH:aT Tryz.prog 61:=Tryz.call61
theorem AO (U:Nat) {k:cQ} (e:Value)  (f:Value)  (m:mZ) (r:Bool) (h:fV U k=some r):
  aY Tryz.prog 61 #[Value.agg #[e,f]] [Sl bP e k.1,S2 bA f m k.2] (λx:Unit=>vB (r)) (λx l=>l) (λ_ l=>l):=by
 refine aY.of Tryz.func61 Z Tryz.ntmps61 Z λc=>?_;refine aU<|aG (aL.box (cs:=[e,f]) Z Z) Z λt=>aD Z<|aM<|aJ<|aU<|fG 0 Z<|fN h λp q h=>aG (aL.callQ Mb (xN U e f m p q) Z (qB [0,1] Z)) Z λu=>aC (sV Z) Z<|aM ?_;refine Bm h Z (λ_ h=>?_) λ_ h=>?_
 ·refine aU<|aD Z<|aM<|aS<|aI ?_;cases h;exact vZ Z
 refine cV<|aJ<|fF (λi=>pO  i=some r) (λi n=>[]) (λi n=>[]) ?_ ?_
 ·refine aU<|fG 0 Z<|fN h λj s h=>aG (aL.callQ VI (Dw U e f m j s) Z (qB [0,1] Z)) Z λg=>aC (jC Z (bD (aE.res 0 Z) cZ) Z) Z<|aA Z<|aM<|aV<|e_ (kK j) (λa b=>[(9,g),(10,vI (List.length j:Int)),(11,vI (a))]) (λa b=>[Ar b_ g j]) (0:Int) () h SF (aZ.ix [0] Z Z) ?_;intro o a b h;refine aU<|cX Z<|aM<|aJ ?_;refine fC h Z (λh=>?_) λh=>?_
  ·refine cV<|aJ<|aV<|aU<|dH h λd h=>aC (bB Z Z (bD (aE.res 0 Z) cZ) Z Z d) Z<|aC (bY Z (bD (aE.res 0 Z) cZ) Z Z Z dJ d) Z<|aD Z<|aM<|aU<|aA Z<|cX Z<|aM ?_;refine fC h Z (λh=>?_) λh=>?_
   ·refine aU<|aD Z<|aM<|aS<|bM<|aI<|aI<|bM<|aI ?_;cases h;exact vZ Z
   refine dX<|o_<|aR<|cP Z<|aA Z<|aM ?_;exact AT (wI .i64 (a+(1:Int))) () h SF Z
  refine gK ?_;exact cU () (()) h SF .nil (aF.refl _ _)
 intro i n h;unfold pO at h;refine aU<|aD Z<|aM<|aS ?_;cases h;exact lI Z
def Df (U:Nat) (a:cQ):Option (Bool):=
 Option.bind (fV U ((a.1,a.2))) λb=>(some (b))
theorem acb:aT Tryz.prog 39:=Tryz.call39
theorem Pg (U:Nat) {d:cQ} (a:Value)  (b:Value)  (e:mZ) (r:Bool) (h:Df U d=some r):
  aY Tryz.prog 39 #[Value.agg #[a,b]] [Sl bP a d.1,S2 bA b e d.2] (λx:Unit=>vB (r)) (λx l=>l) (λ_ l=>l):=by
 refine aY.of Tryz.func39 Z Tryz.ntmps39 Z λc=>?_;refine aU<|aG (aL.box (cs:=[a,b]) Z Z) Z λi=>aD Z<|aM<|aU<|fG 0 Z<|fN h λf g h=>aG (aL.callQ VH (AO U a b e f g) Z (qB [0,1] Z)) Z λj=>aD Z<|aM<|aS ?_;cases h;exact vZ Z
def qX  (a:Unit):Option (Bool):=
 some (true)
def kW (c:Int) (a:(Int)->Option (Bool)) (b:Unit):Option (Bool):=
 a (wI .i64 (c+(1:Int)))
def gJ (b:Int) (a:(Int)->Option (Bool)) (c:Bool):Option (Bool):=
 if c=true then(some (false))else(a (wI .i64 (b+(1:Int))))
def gH (e:bI) (d:Int) (a:Int) (b:(Int)->Option (Bool)) (c:fH):Option (Bool):=
 if(at' (at' e d) a)<c.1 then(gJ a b (true))else(gJ a b (decide (c.2<(at' (at' e d) a))))
def cS (g:cQ) (d:bI) (f:aP) (b:Int) (e:(Int)->Option (Bool)) (a:Int) (c:(Int)->Option (Bool)):Option (Bool):=
 if a<(List.length (at' d b):Int)then(ck (0<=a∧a<(List.length (at' d b):Int)) (ck (0<=a∧a<(List.length f:Int)) (if(at' f a)=(-1:Int)then(ck (0<=b∧b<(List.length g.2:Int)) (gH d b a c ((-1:Int),(wI .i64 ((List.length (at' g.2 b):Int) - (1:Int))))))else(gH d b a c ((0:Int),(at' f a))))))else(kW b e (()))
def eV (U:Nat) (e:cQ) (b:bI) (d:aP) (a:Int) (c:(Int)->Option (Bool)):Option (Bool):=
 if a<(List.length b:Int)then(ck (0<=a∧a<(List.length b:Int)) (if(List.length (at' b a):Int)≠(List.length d:Int)then(some (false))else(bK (cS e b d a c) U (0:Int))))else(qX  (()))
def eK (U:Nat) (a:cQ) (b:bI) (c:aP):Option (Bool):=
 if(List.length b:Int)≠(List.length a.1:Int)then(some (false))else(bK (eV U a b c) U (0:Int))
theorem VF:aT Tryz.prog 56:=Tryz.call56
theorem yU (U:Nat) {g:cQ} {e:bI} {j:aP} (o:Value)  (p:Value)  (H:mZ)  (q:Value)  (E:sD)  (s:Value) (r:Bool) (h:eK U g e j=some r):
  aY Tryz.prog 56 #[Value.agg #[o,p],q,s] [Sl bP o g.1,S2 bA p H g.2,S2 bP q E e,Sl bP s j] (λx:Unit=>vB (r)) (λx l=>l) (λ_ l=>l):=by
 refine aY.of Tryz.func56 Z Tryz.ntmps56 Z λc=>?_;refine aU<|aG (aL.box (cs:=[o,p]) Z Z) Z λk=>aD Z<|aM<|aJ<|aU<|aA Z<|aC (jW Z (aE.fact 2 Z) Z) Z<|bU Z<|dL 0 Z<|kP (aE.fact 0 Z) Z<|pI Z<|aM ?_;refine fC h Z (λh=>?_) λh=>?_
 ·refine aU<|aD Z<|aM<|aS<|aI ?_;cases h;exact vZ Z
 refine cV<|aJ<|fF (λC=>qX  C=some r) (λC F=>[]) (λC F=>[]) ?_ ?_
 ·refine aU<|aA Z<|aC (jW Z (aE.fact 2 Z) Z) Z<|aA Z<|aM<|aV<|e_ (eV U g e j) (λa G=>[(2,s),(3,vP k),(19,q),(20,vI (List.length e:Int)),(21,vI (a))]) (λa G=>[bV k [o,p] 29]) (0:Int) () h SF (aZ.refl _) ?_;intro D a G h;refine aU<|cX Z<|aM<|aJ ?_;refine fC h Z (λh=>?_) λh=>?_
  ·refine cV<|aJ<|fF (λm=>kW a (bK (eV U g e j) D) m=some r) (λm t=>[(2,s),(3,vP k),(19,q),(20,vI (List.length e:Int)),(21,vI (a))]) (λm t=>[bV k [o,p] 29]) ?_ ?_
   ·refine aV<|aU<|aA Z<|dH h λd h=>aC (cL Z Z (aE.fact 2 Z) Z Z d) Z<|aC (cT Z (aE.fact 2 Z) Z Z d) Z<|aD Z<|aD Z<|aM<|aJ<|aU<|aA Z<|aC (jC Z (aE.el (aE.fact 2 Z) d.1 d.2) Z) Z<|aA Z<|kP (aE.fact 3 Z) Z<|pI Z<|aM ?_;refine fC h Z (λh=>?_) λh=>?_
    ·refine aU<|aD Z<|aM<|aS<|aI<|bM<|aI<|aI<|bM<|aI ?_;cases h;exact vZ Z
    refine cV<|aU<|aA Z<|aC (jC Z (aE.el (aE.fact 2 Z) d.1 d.2) Z) Z<|aA Z<|aM<|aV<|e_ (cS g e j a (bK (eV U g e j) D)) (λb u=>[(2,s),(3,vP k),(7,vI (a)),(19,q),(20,vI (List.length e:Int)),(21,vI (a)),(31,(at' E a).1),(32,vI (List.length (at' e a):Int)),(33,vI (b))]) (λb u=>[bV k [o,p] 29]) (0:Int) () h SF (aZ.refl _) ?_;intro B b u h;refine aU<|cX Z<|aM<|aJ ?_;refine fC h Z (λh=>?_) λh=>?_
    ·refine cV<|aJ<|aV<|aU<|aA Z<|dH h λy h=>aC (bB Z Z (aE.el (aE.fact 2 Z) d.1 d.2) Z Z y) Z<|aC (bY Z (aE.el (aE.fact 2 Z) d.1 d.2) Z Z Z dJ y) Z<|aD Z<|aD Z<|aM<|aJ ?_;refine JR.start [0,0,3,7,0,31] 5 mixedOrders (by decide +kernel) ?_;refine JR.open (by exact rfl) ?_;refine bG Z<|bG Z<|dH h λA h=>bJ Z .nil (nA 3 Z) (bB Z Z (aE.fact 0 Z) Z Z A) aK.z<|bJ Z .nil (nA 3 Z) (bY Z (aE.fact 0 Z) Z Z Z dJ A) aK.z<|iH Z (lJ Z)<|bN 5 Z Z<|aD Z<|aM<|aJ<|fF (λf=>gH e a b (bK (cS g e j a (bK (eV U g e j) D)) B) f=some r) (λf v=>[(2,s),(3,vP k),(7,vI (a)),(10,vI (at' (at' e a) b)),(11,vI (f.1)),(12,vI (f.2)),(19,q),(20,vI (List.length e:Int)),(21,vI (a)),(31,(at' E a).1),(32,vI (List.length (at' e a):Int)),(33,vI (b))]) (λf v=>[bV k [o,p] 29]) ?_ ?_
     ·refine aU<|aA Z<|cN Z<|aM ?_;refine fC h Z (λh=>?_) λh=>?_
      ·refine JR.start [0,1,0,7,15,31,63,0,255] 8 mixedOrders (by decide +kernel) ?_;refine JR.open (by exact rfl) ?_;refine cY Z<|jO 0 Z<|bG Z<|dH h λn h=>bJ Z .nil (nA 1 Z) (cL Z Z (aE.fact 0 Z) Z Z n) aK.z<|bJ Z .nil (nA 1 Z) (cT Z (aE.fact 0 Z) Z Z n) aK.z<|bJ Z .nil (nA 1 Z) (jC Z (aE.el (aE.fact 0 Z) n.1 n.2) Z) aK.z<|iH Z (nW Z Z)<|iH Z (lJ Z)<|bN 8 Z Z<|aD Z<|aM ?_;exact jP ((-1:Int),(wI .i64 ((List.length (at' g.2 a):Int) - (1:Int)))) () h SF Z
      refine cV ?_;exact jP ((0:Int),(at' j b)) () h SF Z
     intro f v h;refine aJ<|fF (λi=>gJ b (bK (cS g e j a (bK (eV U g e j) D)) B) i=some r) (λi w=>[(2,s),(3,vP k),(7,vI (a)),(19,q),(20,vI (List.length e:Int)),(21,vI (a)),(31,(at' E a).1),(32,vI (List.length (at' e a):Int)),(33,vI (b)),(58,vB (i))]) (λi w=>[bV k [o,p] 29]) ?_ ?_
     ·refine aR<|aA Z<|aA Z<|cX Z<|aA Z ?_;refine EN h Z (λ_ h=>?_) λ_ h=>?_
      ·refine aN Z<|aN Z<|aN Z<|fK Z<|aM ?_;exact jP (true) () h SF Z
      refine eX Z<|eX Z<|aW Z (wL Z Z) Z<|iL Z<|aM ?_;exact jP (decide (f.2<(at' (at' e a) b))) () h SF Z
     intro i w h;refine Bm h Z (λ_ h=>?_) λ_ h=>?_
     ·refine aU<|aD Z<|aM<|aS<|bM<|aI<|aI<|bM<|bM<|aI<|aI<|bM<|aI ?_;cases h;exact vZ Z
     refine dX<|o_<|aR<|cP Z<|aA Z<|aM ?_;exact AT (wI .i64 (b+(1:Int))) () h SF Z
    refine u_<|gU<|gU<|Az<|o_ ?_;exact jP () (()) h SF Z
   intro m t h;unfold kW at h;refine aR<|cP Z<|aA Z<|aM ?_;exact AT (wI .i64 (a+(1:Int))) () h SF Z
  refine gK ?_;exact cU () (()) h SF .nil (aF.refl _ _)
 intro C F h;unfold qX at h;refine aU<|aD Z<|aM<|aS ?_;cases h;exact lI Z
def jK  (a:Bool):Option (Bool):=
 some (a)
def kF (U:Nat) (a:cQ) (c:bI):Option (Bool):=
 Option.bind (Df U ((a.1,a.2))) λd=>(if d=true then(Option.bind (eK U ((a.1,a.2)) c ([(List.length a.1:Int),(-1:Int),(1:Int),(1:Int),(3:Int),(1:Int)])) λb=>(jK  (b)))else(jK  (false)))
theorem ab_:aT Tryz.prog 34:=Tryz.call34
theorem CK (U:Nat) {b:cQ} {o:bI} (g:Value)  (i:Value)  (m:mZ)  (j:Value)  (p:sD) (r:Bool) (h:kF U b o=some r):
  aY Tryz.prog 34 #[Value.agg #[g,i],j] [Sl bP g b.1,S2 bA i m b.2,S2 bP j p o] (λx:Unit=>vB (r)) (λx l=>l) (λ_ l=>l):=by
 refine aY.of Tryz.func34 Z Tryz.ntmps34 Z λc=>?_;refine aU<|aG (aL.box (cs:=[g,i]) Z Z) Z λv=>aD Z<|aM<|aJ<|fF (λd=>jK  d=some r) (λd n=>[(4,vB (d))]) (λd n=>[]) ?_ ?_
 ·refine aR<|fG 0 Z<|fN h λq t h=>aG (aL.callQ acb (Pg U g i m q t) Z (qB [0,1] Z)) Z λw=>aA Z ?_;refine Ff (by exact rfl) (by exact rfl) (λa=>?_) (λa=>?_)
  ·have h:=QJ a h;refine aW Z (hZ 0 Z Z Z Z) Z<|eX Z<|aW Z (eT Z Z Z Z Z) Z<|aW Z (gV 0 Z Z Z Z Z) Z<|aW Z (jC Z (aE.fact 0 Z) Z) Z<|tG Z (bZ (e:=b_) ([(List.length b.1:Int),(-1:Int),(1:Int),(1:Int),(3:Int),(1:Int)]) [(0,vI (List.length b.1:Int)),(1,vI (-1:Int)),(2,vI (1:Int)),(3,vI (1:Int)),(4,vI (3:Int)),(5,vI (1:Int))] Z Z Z Z (Wu (vI (List.length b.1:Int)) (vI (-1:Int)) (vI (1:Int)) (vI (1:Int)) (vI (3:Int)) (vI (1:Int)) Z Z Z Z Z Z) Z Z Z) Z λs=>fN h λf k h=>tG Z (aL.callQ VF (yU U g i m j p s f k) Z (aF.cons (aE.fact 0 Z) (aF.cons (aE.fact 1 Z) (aF.cons (aE.fact 2 Z) (aF.cons (bD (aE.res 0 Z) cZ) .nil))))) Z λu=>fK Z<|aD Z<|aM ?_;exact cU (f) () h SF .nil (aF.refl _ _)
  have h:=Od a h;refine aN Z<|aN Z<|aN Z<|aN Z<|aN Z<|aN Z<|aN Z<|iL Z<|aD Z<|aM ?_;exact cU (false) () h SF .nil (aF.refl _ _)
 intro d n h;unfold jK at h;refine aS ?_;cases h;exact lI Z
def GN (U:Nat) (a:cQ):Option (Bool):=
 Option.bind (fV U ((a.1,a.2))) λb=>(some (b))
theorem acr:aT Tryz.prog 85:=Tryz.call85
theorem Ux (U:Nat) {d:cQ} (a:Value)  (b:Value)  (e:mZ) (r:Bool) (h:GN U d=some r):
  aY Tryz.prog 85 #[Value.agg #[a,b]] [Sl bP a d.1,S2 bA b e d.2] (λx:Unit=>vB (r)) (λx l=>l) (λ_ l=>l):=by
 refine aY.of Tryz.func85 Z Tryz.ntmps85 Z λc=>?_;refine aU<|aG (aL.box (cs:=[a,b]) Z Z) Z λi=>aD Z<|aM<|aU<|fG 0 Z<|fN h λf g h=>aG (aL.callQ VH (AO U a b e f g) Z (qB [0,1] Z)) Z λj=>aD Z<|aM<|aS ?_;cases h;exact vZ Z
def kX  (a:Bool):Option (Bool):=
 some (a)
def oG (U:Nat) (a:cQ) (c:bI):Option (Bool):=
 Option.bind (GN U ((a.1,a.2))) λd=>(if d=true then(Option.bind (eK U ((a.1,a.2)) c ([(List.length a.1:Int),(-1:Int)])) λb=>(kX  (b)))else(kX  (false)))
theorem acg:aT Tryz.prog 57:=Tryz.call57
theorem Em (U:Nat) {b:cQ} {o:bI} (g:Value)  (i:Value)  (m:mZ)  (j:Value)  (p:sD) (r:Bool) (h:oG U b o=some r):
  aY Tryz.prog 57 #[Value.agg #[g,i],j] [Sl bP g b.1,S2 bA i m b.2,S2 bP j p o] (λx:Unit=>vB (r)) (λx l=>l) (λ_ l=>l):=by
 refine aY.of Tryz.func57 Z Tryz.ntmps57 Z λc=>?_;refine aU<|aG (aL.box (cs:=[g,i]) Z Z) Z λv=>aD Z<|aM<|aJ<|fF (λd=>kX  d=some r) (λd n=>[(4,vB (d))]) (λd n=>[]) ?_ ?_
 ·refine aR<|fG 0 Z<|fN h λq t h=>aG (aL.callQ acr (Ux U g i m q t) Z (qB [0,1] Z)) Z λw=>aA Z ?_;refine Ff (by exact rfl) (by exact rfl) (λa=>?_) (λa=>?_)
  ·have h:=QJ a h;refine aW Z (hZ 0 Z Z Z Z) Z<|eX Z<|aW Z (eT Z Z Z Z Z) Z<|aW Z (gV 0 Z Z Z Z Z) Z<|aW Z (jC Z (aE.fact 0 Z) Z) Z<|tG Z (bZ (e:=b_) ([(List.length b.1:Int),(-1:Int)]) [(0,vI (List.length b.1:Int)),(1,vI (-1:Int))] Z Z Z Z (Jm (vI (List.length b.1:Int)) (vI (-1:Int)) Z Z) Z Z Z) Z λs=>fN h λf k h=>tG Z (aL.callQ VF (yU U g i m j p s f k) Z (aF.cons (aE.fact 0 Z) (aF.cons (aE.fact 1 Z) (aF.cons (aE.fact 2 Z) (aF.cons (bD (aE.res 0 Z) cZ) .nil))))) Z λu=>fK Z<|aD Z<|aM ?_;exact cU (f) () h SF .nil (aF.refl _ _)
  have h:=Od a h;refine aN Z<|aN Z<|aN Z<|aN Z<|aN Z<|aN Z<|aN Z<|iL Z<|aD Z<|aM ?_;exact cU (false) () h SF .nil (aF.refl _ _)
 intro d n h;unfold kX at h;refine aS ?_;cases h;exact lI Z
def mA (U:Nat) (a:cQ) (c:Int) (b:Bool):Option aP:=
 if b=true then(some ([]:aP))else(Option.bind (jI U ((a.1,a.2)) c) λd=>(some (d)))
def nT (U:Nat) (a:cQ) (b:Int):Option aP:=
 Option.bind (gQ U ((a.1,a.2))) λc=>(if(!c)=true then(mA U a b (true))else(if b<(0:Int)then(mA U a b (true))else(mA U a b (decide ((List.length a.2:Int)<=b)))))
theorem ach:aT Tryz.prog 58:=Tryz.call58
theorem Gf (U:Nat) {f:cQ} {g:Int} (b:Value)  (d:Value)  (j:mZ) (r:aP) (h:nT U f g=some r):
  aY Tryz.prog 58 #[Value.agg #[b,d],vI (g)] [Sl bP b f.1,S2 bA d j f.2] (λx:Value=>x) (λx l=>Ar b_ x r::l) (λ_ l=>l):=by
 refine aY.of Tryz.func58 Z Tryz.ntmps58 Z λc=>?_;refine aU<|aG (aL.box (cs:=[b,d]) Z Z) Z λk=>aD Z<|aM<|aJ<|aJ<|fF (λe=>mA U f g e=some r) (λe m=>[(1,vI (g)),(2,vP k),(18,vB (e))]) (λe m=>[bV k [b,d] 29]) ?_ ?_
 ·refine aR<|fG 0 Z<|fN h λo i h=>aG (aL.callQ Mb (xN U b d j o i) Z (qB [0,1] Z)) Z λq=>aC (sV Z) Z<|aA Z ?_;refine Ff (by exact rfl) (by exact rfl) (λa=>?_) (λa=>?_)
  ·have h:=QJ a h;refine aN Z<|aN Z<|fK Z<|aA Z<|aN Z<|aN Z<|aN Z<|aN Z<|aN Z<|fK Z<|aM ?_;exact jP (true) () h SF Z
  have h:=Od a h;refine eX Z<|aW Z (Kz Z Z) Z<|iL Z<|aA Z ?_;refine EN h Z (λ_ h=>?_) λ_ h=>?_
  ·refine aN Z<|aN Z<|aN Z<|aN Z<|aN Z<|fK Z<|aM ?_;exact jP (true) () h SF Z
  refine eX Z<|aW Z (eT Z Z Z Z Z) Z<|aW Z (gV 0 Z Z Z Z Z) Z<|aW Z (jW Z (aE.fact 1 Z) Z) Z<|aW Z (Hn Z Z) Z<|iL Z<|aM ?_;exact jP (decide ((List.length f.2:Int)<=g)) () h SF Z
 intro e m h;refine Bm h Z (λ_ h=>?_) λ_ h=>?_
 ·refine aU<|aD Z<|aM<|aS<|aI<|jD (iC b_) ?_;cases h;exact iI (lC) Z Z (RV.tmp Z) (aZ.ix [0] Z Z) aF.nil
 refine cV<|aU<|fG 0 Z<|aA Z<|fN h λn p h=>aG (aL.callQ VI (Dw U b d j n p) Z (qB [0,1] Z)) Z λs=>aD Z<|aM<|aS ?_;cases h;exact iI (s) Z Z (RV.tmp Z) (aZ.ix [0] Z Z) aF.nil
def xG (U:Nat) (b:fH) (a:aP) (c:Int):Option (Bool):=
 ck (0<=b.1∧b.1<(List.length a:Int)) (ck (0<=c∧c<(List.length a:Int)) (some (decide ((at' a b.1)=(wI .i64 ((at' a c) - (1:Int)))))))
theorem acs:aT Tryz.prog 88:=Tryz.call88
theorem Ko (U:Nat) {d:fH} {g:aP} {i:Int} (a:Nat)  (j:Value)  (b:Nat) (r:Bool) (h:xG U d g i=some r):
  aY Tryz.prog 88 #[Value.agg #[vI (d.1),vI (d.2)],vP a,vP b] [bV a [j] 22,Sl bP j g,bV b [vI (i)] 3] (λx:Unit=>vB (r)) (λx l=>l) (λ_ l=>l):=by
 refine aY.of Tryz.func88 Z Tryz.ntmps88 Z λc=>?_;refine aU<|aG (aL.box (cs:=[vI (d.1),vI (d.2)]) Z Z) Z λk=>aD Z<|aM<|aJ ?_;refine JR.start [0,0,2,7,15,0,0,96,224,480,1023,2047] 10 mixedOrders (by decide +kernel) ?_;refine JR.open (by exact rfl) ?_;refine bJ Z .nil (nA 0 Z) (dB Z (aE.fact 0 Z) Z Z Z) aK.z<|cY Z<|jO 0 Z<|dH h λe h=>bJ Z .nil (nA 1 Z) (bB Z Z (aE.fact 0 Z) Z Z e) aK.z<|bJ Z .nil (nA 1 Z) (bY Z (aE.fact 0 Z) Z Z Z dJ e) aK.z<|bJ Z .nil (nA 0 Z) (dB Z (aE.fact 0 Z) Z Z Z) aK.z<|bJ Z .nil (nA 2 Z) (dB Z (aE.fact 0 Z) Z Z Z) aK.z<|dH h λf h=>bJ Z .nil (nA 1 Z) (bB Z Z (aE.fact 0 Z) Z Z f) aK.z<|bJ Z .nil (nA 1 Z) (bY Z (aE.fact 0 Z) Z Z Z dJ f) aK.z<|iH Z (nW Z Z)<|bN 10 Z Z<|cN Z<|aD Z<|aM<|aS ?_;cases h;exact vZ Z
def yM  (a:Unit):Option (Bool):=
 some (true)
def tW (c:aP) (d:aP) (a:Int) (b:(Int)->Option (Bool)):Option (Bool):=
 if a<(List.length c:Int)then(ck (0<=a∧a<(List.length c:Int)) (ck (0<=a∧a<(List.length d:Int)) (if(at' c a)≠(at' d a)then(some (false))else(b (wI .i64 (a+(1:Int)))))))else(yM  (()))
def vT (U:Nat) (a:aP) (b:aP):Option (Bool):=
 if(List.length a:Int)≠(List.length b:Int)then(some (false))else(bK (tW a b) U (0:Int))
theorem acu:aT Tryz.prog 89:=Tryz.call89
theorem JW (U:Nat) {f:aP} {g:aP} (i:Value)  (j:Value) (r:Bool) (h:vT U f g=some r):
  aY Tryz.prog 89 #[i,j] [Sl bP i f,Sl bP j g] (λx:Unit=>vB (r)) (λx l=>l) (λ_ l=>l):=by
 refine aY.of Tryz.func89 Z Tryz.ntmps89 Z λc=>?_;refine aU<|aD Z<|aM<|aJ<|aU<|aA Z<|kP (aE.fact 0 Z) Z<|aA Z<|kP (aE.fact 1 Z) Z<|pI Z<|aM ?_;refine fC h Z (λh=>?_) λh=>?_
 ·refine aU<|aD Z<|aM<|aS<|aI ?_;cases h;exact lI Z
 refine cV<|aJ<|fF (λd=>yM  d=some r) (λd k=>[]) (λd k=>[]) ?_ ?_
 ·refine aU<|aA Z<|kP (aE.fact 0 Z) Z<|aA Z<|aM<|aV<|e_ (tW f g) (λe m=>[(0,i),(1,j),(12,vI (List.length f:Int)),(13,vI (e))]) (λe m=>[]) (0:Int) () h SF (aZ.refl _) ?_;intro n e m h;refine aU<|cX Z<|aM<|aJ ?_;refine fC h Z (λh=>?_) λh=>?_
  ·refine cV<|aJ<|aV<|aU<|aA Z<|aD Z<|aM<|aJ ?_;refine JR.start [0,0,3,7,0,0,48,112,255] 8 mixedOrders (by decide +kernel) ?_;refine JR.open (by exact rfl) ?_;refine bG Z<|bG Z<|dH h λa h=>bJ Z .nil (nA 0 Z) (bB Z Z (aE.fact 0 Z) Z Z a) aK.z<|bJ Z .nil (nA 0 Z) (bY Z (aE.fact 0 Z) Z Z Z dJ a) aK.z<|bG Z<|bG Z<|dH h λb h=>bJ Z .nil (nA 1 Z) (bB Z Z (aE.fact 0 Z) Z Z b) aK.z<|bJ Z .nil (nA 1 Z) (bY Z (aE.fact 0 Z) Z Z Z dJ b) aK.z<|bN 8 Z Z<|pI Z<|aM ?_;refine fC h Z (λh=>?_) λh=>?_
   ·refine aU<|aD Z<|aM<|aS<|bM<|aI<|aI<|bM<|aI ?_;cases h;exact lI Z
   refine dX<|o_<|aR<|cP Z<|aA Z<|aM ?_;exact AT (wI .i64 (e+(1:Int))) () h SF Z
  refine gK ?_;exact jP () (()) h SF Z
 intro d k h;unfold yM at h;refine aU<|aD Z<|aM<|aS ?_;cases h;exact lI Z
def vA (U:Nat) (a:Int) (c:aP) (e:aP) (d:Int):Option (Bool):=
 ck (0<=a∧a<(List.length c:Int)) (Option.bind (vT U e ([(at' c a),d])) λb=>(some (b)))
def BI (U:Nat) (b:Int) (c:aP) (d:aP) (a:Unit):Option (Bool):=
 vA U b c d (-1:Int)
def rP (U:Nat) (d:cQ) (b:Int) (e:aP) (g:aP) (a:Int) (c:(Int)->Option (Bool)):Option (Bool):=
 if a<(List.length (at' d.2 b):Int)then(ck (0<=a∧a<(List.length (at' d.2 b):Int)) (Option.bind (xG U ((((at' (at' d.2 b) a).1),((at' (at' d.2 b) a).2))) e b) λf=>(if f=true then(vA U b e g (a))else(c (wI .i64 (a+(1:Int)))))))else(BI U b e g (()))
def uS (U:Nat) (b:cQ) (a:Int) (c:aP) (d:aP):Option (Bool):=
 ck (0<=a∧a<(List.length b.2:Int)) (bK (rP U b a c d) U (0:Int))
theorem aci:aT Tryz.prog 59:=Tryz.call59
theorem Pd (U:Nat) {f:cQ} {b:Int} {j:aP} {o:aP} (p:Value)  (q:Value)  (F:mZ)  (n:Value)  (v:Value) (r:Bool) (h:uS U f b j o=some r):
  aY Tryz.prog 59 #[Value.agg #[p,q],vI (b),n,v] [Sl bP p f.1,S2 bA q F f.2,Sl bP n j,Sl bP v o] (λx:Unit=>vB (r)) (λx l=>l) (λ_ l=>l):=by
 refine aY.of Tryz.func59 Z Tryz.ntmps59 Z λc=>?_;refine aU<|aG (aL.box (cs:=[p,q]) Z Z) Z λN=>aG (aL.box (cs:=[vI (b)]) Z Z) Z λk=>bX (Know.one ((aE.fact 2 Z))) λy=>?_;refine aG (aL.box (cs:=[n]) Z (by rw[fJ y])) Z λm=>?_;refine aD Z<|aM<|aU<|fG 2 Z<|dL 1 Z<|aC (wR (cs:=[.tmp 6,.tmp 5]) (vs:=[vP m,vP k]) Z) Z<|AQ (A:=Int) (B:=Unit) (vs:=[Value.agg #[p,q],vI (b),Value.func (.func 88) #[] #[vP m,vP k]]) (λi=>vA U b j o i=some r) (λi w=>vI (i)) (λi w=>[bV m [n] 22,bV k [vI (b)] 3]) (λi w=>[Sl bP p f.1,S2 bA q F f.2,Sl bP n j,Sl bP v o]) (sS.fn (show aT Tryz.prog 87 from Tryz.call87) Z) Tryz.func87 Z Tryz.ntmps87 Z Z ?_ ?_
 ·refine aU<|aG (aL.box (cs:=[p,q]) Z Z) Z λH=>aD Z<|aM<|aJ<|fF (λg=>BI U b j o g=some r) (λg s=>[]) (λg s=>[bV m [n] 22,bV k [vI (b)] 3]) ?_ ?_
  ·refine aU<|bU Z<|dL 0 Z<|aA Z<|dH h λd h=>aC (cL Z Z (aE.fact 1 Z) Z Z d) Z<|aC (cT Z (aE.fact 1 Z) Z Z d) Z<|aC (jC Z (aE.el (aE.fact 1 Z) d.1 d.2) Z) Z<|aA Z<|aM<|aV<|e_ (rP U f b j o) (λa t=>[(2,Value.func (.func 88) #[] #[vP m,vP k]),(13,(at' F b).1),(14,vI (List.length (at' f.2 b):Int)),(15,vI (a))]) (λa t=>[bV m [n] 22,bV k [vI (b)] 3]) (0:Int) () h SF (aZ.ix [1,2] Z Z) ?_;intro J a t h;refine aU<|cX Z<|aM<|aJ ?_;refine fC h Z (λh=>?_) λh=>?_
   ·refine cV<|aJ<|aV<|aU<|aA Z<|dH h λu h=>aC (bB Z Z (aE.el (aE.fact 1 Z) d.1 d.2) Z Z u) Z<|aC (jG (cs:=[vI ((at' (at' f.2 b) a).1),vI ((at' (at' f.2 b) a).2)]) Z (aE.el (aE.fact 1 Z) d.1 d.2) bR Z Z Z Z u) Z<|aG (aL.alloc (cs:=UG) Z Z) Z λI=>aD Z<|bQ 0 (vs:=[vI ((at' (at' f.2 b) a).1),vI ((at' (at' f.2 b) a).2)]) Z Z Z Z Z Z<|aM<|aU<|aA Z<|fG 0 Z<|fN h λC E h=>aG (uN (vs:=[Value.agg #[vI ((at' (at' f.2 b) a).1),vI ((at' (at' f.2 b) a).2)]]) (cs:=[vP m,vP k]) acs Z (Ko U m n k C E) Z (aF.cons (aE.res 1 Z) (aF.cons (aE.fact 2 Z) (aF.cons (aE.res 2 Z) .nil))) (λ_ _=>rfl)) Z λM=>aM ?_;refine Bm h Z (λ_ h=>?_) λ_ h=>?_
    ·refine aU<|aA Z<|aD Z<|aM<|aS<|bM<|aI<|aI<|bM<|aI ?_;exact uC (a) () h (.inl Z) (Gw.r1 Z (RV.tmp Z)) Z (aZ.ix [1,2] Z Z) (aF.refl _ _)
    refine dX<|o_<|aR<|cP Z<|aA Z<|aM ?_;exact nM (wI .i64 (a+(1:Int))) () h SF (aZ.ix [1,2] Z Z) (aF.refl _ _)
   refine gK ?_;exact jP () (()) h SF Z
  intro g s h;unfold BI at h;refine aU<|aD Z<|aM<|aS ?_;exact uC (-1:Int) () h (.inl Z) (Gw.r1 Z (RV.tmp Z)) Z (aZ.refl _) (aF.refl _ _)
 intro i w h;refine aD Z<|aM<|aU<|aA Z<|dL 0 Z<|dL 1 Z<|dH h λG h=>aC (bB Z Z (aE.fact 2 Z) Z Z G) Z<|aC (bY Z (aE.fact 2 Z) Z Z Z dJ G) Z<|aA Z<|aG (bZ (e:=b_) ([(at' j b),i]) [(0,vI (at' j b)),(1,vI (i))] Z Z Z Z (Jm (vI (at' j b)) (vI (i)) Z Z) Z Z Z) Z λK=>fN h λz D h=>aG (aL.callQ acu (JW U v K z D) Z (aF.cons (aE.fact 3 Z) (aF.cons (bD (aE.res 0 Z) cZ) .nil))) Z λL=>aD Z<|aM<|aS ?_;cases h;exact vZ Z
def BH  (a:Unit):Option (Bool):=
 some (true)
def y_ (U:Nat) (e:cQ) (c:bI) (f:aP) (a:Int) (b:(Int)->Option (Bool)):Option (Bool):=
 if a<(List.length c:Int)then(ck (0<=a∧a<(List.length c:Int)) (Option.bind (uS U ((e.1,e.2)) a f (at' c a)) λd=>(if(!d)=true then(some (false))else(b (wI .i64 (a+(1:Int)))))))else(BH  (()))
def uR (U:Nat) (a:cQ) (b:bI):Option (Bool):=
 Option.bind (oG U ((a.1,a.2)) b) λc=>(if(!c)=true then(some (false))else(Option.bind (nT U ((a.1,a.2)) (0:Int)) λd=>(bK (y_ U a b d) U (0:Int))))
theorem aca:aT Tryz.prog 35:=Tryz.call35
theorem Pb (U:Nat) {j:cQ} {k:bI} (d:Value)  (e:Value)  (n:mZ)  (m:Value)  (t:sD) (r:Bool) (h:uR U j k=some r):
  aY Tryz.prog 35 #[Value.agg #[d,e],m] [Sl bP d j.1,S2 bA e n j.2,S2 bP m t k] (λx:Unit=>vB (r)) (λx l=>l) (λ_ l=>l):=by
 refine aY.of Tryz.func35 Z Tryz.ntmps35 Z λc=>?_;refine aU<|aG (aL.box (cs:=[d,e]) Z Z) Z λu=>aD Z<|aM<|aJ<|aU<|fG 0 Z<|aA Z<|fN h λw y h=>aG (aL.callQ acg (Em U d e n m t w y) Z (qB [0,1,2] Z)) Z λB=>aC (sV Z) Z<|aM ?_;refine Bm h Z (λ_ h=>?_) λ_ h=>?_
 ·refine aU<|aD Z<|aM<|aS<|aI ?_;cases h;exact vZ Z
 refine cV<|aU<|fG 0 Z<|fN h λp z h=>aG (aL.callQ ach (Gf U d e n p z) Z (qB [0,1] Z)) Z λs=>aD Z<|aM<|aJ<|fF (λi=>BH  i=some r) (λi f=>[]) (λi f=>[]) ?_ ?_
 ·refine aU<|aA Z<|aC (jW Z (aE.fact 2 Z) Z) Z<|aA Z<|aM<|aV<|e_ (y_ U j k p) (λa g=>[(2,vP u),(5,s),(14,m),(15,vI (List.length k:Int)),(16,vI (a))]) (λa g=>[Ar b_ s p,bV u [d,e] 29]) (0:Int) () h SF (aZ.refl _) ?_;intro v a g h;refine aU<|cX Z<|aM<|aJ ?_;refine fC h Z (λh=>?_) λh=>?_
  ·refine cV<|aJ<|aV<|aU<|aA Z<|dH h λb h=>aC (cL Z Z (aE.fact 2 Z) Z Z b) Z<|aC (cT Z (aE.fact 2 Z) Z Z b) Z<|aD Z<|aD Z<|aM<|aU<|fG 1 Z<|aA Z<|aA Z<|aA Z<|fN h λo q h=>aG (aL.callQ aci (Pd U d e n s ((at' t a).1) o q) Z (aF.cons (aE.fact 0 Z) (aF.cons (aE.fact 1 Z) (aF.cons (bD (aE.res 0 Z) cZ) (aF.cons (aE.el (aE.fact 2 Z) b.1 b.2) .nil))))) Z λA=>aC (sV Z) Z<|aM ?_;refine Bm h Z (λ_ h=>?_) λ_ h=>?_
   ·refine aU<|aD Z<|aM<|aS<|bM<|aI<|aI<|bM<|aI ?_;cases h;exact vZ Z
   refine dX<|o_<|aR<|cP Z<|aA Z<|aM ?_;exact AT (wI .i64 (a+(1:Int))) () h SF Z
  refine gK ?_;exact cU () (()) h SF .nil (aF.refl _ _)
 intro i f h;unfold BH at h;refine aU<|aD Z<|aM<|aS ?_;cases h;exact lI Z
def Ag  (a:Unit):Option (Bool):=
 some (true)
def pE (a:Int) (c:(Int)->Option (Bool)) (b:Bool):Option (Bool):=
 if b=true then(some (false))else(c (wI .i64 (a+(1:Int))))
def jJ (b:bI) (a:Int) (c:(Int)->Option (Bool)):Option (Bool):=
 if a<(List.length b:Int)then(ck (0<=a∧a<(List.length b:Int)) (ck (0<=(2:Int)∧(2:Int)<(List.length (at' b a):Int)) (if(at' (at' b a) (2:Int))≠(0:Int)then(pE a c (true))else(ck (0<=(5:Int)∧(5:Int)<(List.length (at' b a):Int)) (if(at' (at' b a) (5:Int))≠(0:Int)then(pE a c (true))else(ck (0<=(3:Int)∧(3:Int)<(List.length (at' b a):Int)) (ck (0<=(0:Int)∧(0:Int)<(List.length b:Int)) (ck (0<=(3:Int)∧(3:Int)<(List.length (at' b (0:Int)):Int)) (pE a c (decide ((at' (at' b a) (3:Int))≠(at' (at' b (0:Int)) (3:Int)))))))))))))else(Ag  (()))
def pD (U:Nat) (b:bI) (a:Bool):Option (Bool):=
 if a=true then(some (false))else(bK (jJ b) U (0:Int))
def Dm (U:Nat) (c:cQ) (d:bI) (a:bI):Option (Bool):=
 Option.bind (uR U ((c.1,c.2)) a) λb=>(pD U d ((!b)))
def vY (U:Nat) (b:cQ) (c:bI) (a:bI):Option (Bool):=
 Dm U b c (a)
def rK (U:Nat) (d:cQ) (c:bI) (a:Int×bI) (b:(Int×bI)->Option (Bool)):Option (Bool):=
 if a.1<(List.length c:Int)then(ck (0<=a.1∧a.1<(List.length c:Int)) (ck (0<=(0:Int)∧(0:Int)<=(2:Int)∧(2:Int)<=(2:Int)∧(2:Int)<=(List.length (at' c a.1):Int)) (ck (0<=a.1∧a.1<(List.length a.2:Int)) (b ((wI .i64 (a.1+(1:Int))),(List.set a.2 (Int.toNat a.1) (List.drop (Int.toNat (0:Int)) (List.take (Int.toNat (2:Int)) (at' c a.1)))))))))else(vY U d c (a.2))
def gR (U:Nat) (b:cQ) (a:bI):Option (Bool):=
 Option.bind (kF U ((b.1,b.2)) a) λc=>(if(!c)=true then(pD U a (true))else(ck (0<=(List.length a:Int)∧(List.length a:Int)<=1099511627) (bK (rK U b a) U ((0:Int),(List.replicate (Int.toNat (List.length a:Int)) ([]:aP))))))
theorem Qm:aT Tryz.prog 14:=Tryz.call14
theorem Bb (U:Nat) {p0:cQ} {p1:bI} (C:Value)  (D:Value)  (F:mZ)  (s:Value)  (G:sD) (r:Bool) (h:gR U p0 p1=some r):
  aY Tryz.prog 14 #[Value.agg #[C,D],s] [Sl bP C p0.1,S2 bA D F p0.2,S2 bP s G p1] (λx:Unit=>vB (r)) (λx l=>l) (λ_ l=>l):=by
 refine aY.of Tryz.func14 Z Tryz.ntmps14 Z λc=>?_;refine aU<|aG (aL.box (cs:=[C,D]) Z Z) Z λS=>aD Z<|aM<|aJ<|aJ<|fF (λH=>pD U p1 H=some r) (λH b4=>[(1,s),(17,vB (H))]) (λH b4=>[]) ?_ ?_
 ·refine JR.start [0,0,3,7,15,31,31,95,255,511,1023] 8 mixedOrders (by decide +kernel) ?_;refine JR.open (by exact rfl) ?_;refine pG 0 Z<|bG Z<|fN h λW X h=>JR.loud Z Z Z (aL.callQ ab_ (CK U C D F s G W X) Z (qB [0,1,2] Z)) Z (λaa=>(uZ [] Z)) λaa=>iH Z (sV Z)<|iH Z (fZ Z) ?_;refine JR.guard (by exact rfl) (by exact rfl) (by exact rfl) (λw=>?_) (λw=>?_)
  ·have h:=QJ w h;refine cA Z Z Z Z<|cA Z Z Z Z<|cA Z Z Z Z<|bN 8 Z Z<|aN Z<|aN Z<|fK Z<|aM ?_;exact cU (true) () h SF .nil (aF.refl _ _)
  have h:=Od w h;refine iN Z (aZ.cons 0 Z .nil) .nil (hZ 0 Z Z Z Z) (hkI Z)<|iN Z .nil .nil (fZ Z) (hkI Z)<|UV (A:=bI) (B:=Kc) (vs:=[s]) (λn=>Dm U p0 p1 n=some r) (λn d=>d.1) (λn d=>[Ar cO.raw d.1 d.2,bV S [C,D] 29]) (λn d=>[Rlf bP d.2 n,Sl bP C p0.1,S2 bA D F p0.2,S2 bP s G p1]) Z Z Z Z (sS.fn (show aT Tryz.prog 36 from Tryz.call36) Z) Tryz.func36 Z Tryz.ntmps36 Z Z (λ_ _=>(uZ [([1],[])] Z)) ?_ ?_
  ·refine aU<|aD Z<|aM<|aU<|aA Z<|aC (jW Z (aE.fact 2 Z) Z) Z<|dH h λT h=>YA bP (Int.toNat (List.length p1:Int))<|aG (pM (e:=cO.raw) (lC) Z Z Z Z T Z Z Z) Z λy=>aD Z<|aM<|aJ<|By (B:=fM) (λo=>vY U p0 p1 o=some r) (λo p=>[(3,y)]) (λo p=>[Ar cO.raw y p,bV S [C,D] 29]) (λo p=>[Rlf bP p o,Sl bP C p0.1,S2 bA D F p0.2,S2 bP s G p1]) ?_ ?_
   ·refine aU<|aA Z<|aC (jW Z (aE.fact 3 Z) Z) Z<|aA Z<|aM<|aV<|Fg (B:=fM) (rK U p0 p1) (λb f=>[(3,y),(9,s),(10,vI (List.length p1:Int)),(11,vI (b.1))]) (λb f=>[Ar cO.raw y f,bV S [C,D] 29]) (λb f=>[Rlf bP f b.2,Sl bP C p0.1,S2 bA D F p0.2,S2 bP s G p1]) ((0:Int),(List.replicate (Int.toNat (List.length p1:Int)) ([]:aP))) (List.replicate (Int.toNat (List.length p1:Int)) (lC)) h SF (aZ.refl _) (aF.refl _ _) ?_;intro ab b f h;refine aU<|cX Z<|aM<|aJ ?_;refine fC h Z (λh=>?_) λh=>?_
    ·refine cV<|aJ<|aV<|aU<|aA Z<|dH h λg h=>aC (cL Z Z (aE.fact 3 Z) Z Z g) Z<|aC (cT Z (aE.fact 3 Z) Z Z g) Z<|aD Z<|aD Z<|aM<|aR<|aA Z<|aA Z<|aA Z<|dH h λE h=>aC (TD Z Z Z Z (aE.el (aE.fact 3 Z) g.1 g.2) Z Z E) Z<|dH h λP h=>aC (cL Z Z (IK (i:=0) (j:=0) Z Z) Z Z P) Z<|bX (Know.one ((IJ (aE.el (aE.fact 3 Z) g.1 g.2) Z E))) λK=>Tp 0 0 P Z Z Z Z K Z<|YF (k:=Int.toNat b.1) 0 (vs:=f) Z (IJ (aE.el (aE.fact 3 Z) g.1 g.2) Z E)<|eR<|o_<|aR<|cP Z<|aA Z<|aM ?_;exact AT ((wI .i64 (b.1+(1:Int))),(List.set b.2 (Int.toNat b.1) (List.drop (Int.toNat (0:Int)) (List.take (Int.toNat (2:Int)) (at' p1 b.1))))) (List.set f (Int.toNat b.1) (sl3 ((at' G b.1).1) (Int.toNat (0:Int)) (Int.toNat (2:Int)) (Int.toNat (2:Int)) 1)) h SF Z
    refine gK ?_;exact jP (b.2) (f) h SF Z
   intro o p h;unfold vY at h;refine aU<|aA Z<|aD Z<|aM<|aS ?_;exact uC (o) (y,p) h (.inl Z) (Gw.r1 Z (RV.tmp Z)) Z (aZ.refl _) (aF.refl _ _)
  intro n d h;refine bN 8 Z Z<|fN h λQ Y h=>tG Z (aL.callQ aca (Pb U C D F d.1 (List.zip d.2 n) Q Y) Z (aF.cons (aE.fact 1 Z) (aF.cons (aE.fact 2 Z) (aF.cons (IK (i:=0) (j:=0) Z Z) .nil)))) Z λac=>aW Z (sV Z) Z<|iL Z<|aM ?_;exact cU ((!Q)) () h SF .nil (qB [1,2,3] Z)
 intro H b4 h;refine Bm h Z (λ_ h=>?_) λ_ h=>?_
 ·refine aU<|aD Z<|aM<|aS<|aI ?_;cases h;exact lI Z
 refine cV<|aJ<|fF (λR=>Ag  R=some r) (λR b7=>[]) (λR b7=>[]) ?_ ?_
 ·refine aU<|aA Z<|aC (jW Z (aE.fact 2 Z) Z) Z<|aA Z<|aM<|aV<|e_ (jJ p1) (λm I=>[(1,s),(18,s),(19,vI (List.length p1:Int)),(20,vI (m))]) (λm I=>[]) (0:Int) () h SF (aZ.refl _) ?_;intro V m I h;refine aU<|cX Z<|aM<|aJ ?_;refine fC h Z (λh=>?_) λh=>?_
  ·refine cV<|aJ<|aV<|aU<|dH h λa h=>aC (cL Z Z (aE.fact 2 Z) Z Z a) Z<|aC (cT Z (aE.fact 2 Z) Z Z a) Z<|aD Z<|aM<|aJ<|fF (λt=>pE m (bK (jJ p1) V) t=some r) (λt J=>[(1,s),(18,s),(19,vI (List.length p1:Int)),(20,vI (m)),(44,vB (t))]) (λt J=>[]) ?_ ?_
   ·refine JR.start [0,1,3,7,15,31,63,127,255,511,1023,2047,4095,8191,2047,18431,51199,116735,247807,524287,1048575] 19 mixedOrders (by decide +kernel) ?_;refine JR.open (by exact rfl) ?_;refine bG Z<|dH h λL h=>bJ Z .nil (nA 2 Z) (bB Z Z (aE.el (aE.fact 0 Z) a.1 a.2) Z Z L) aK.z<|bJ Z .nil (nA 2 Z) (bY Z (aE.el (aE.fact 0 Z) a.1 a.2) Z Z Z dJ L) aK.z<|iH Z (CU Z Z)<|bG Z ?_;refine Gr (by exact rfl) (by exact rfl) (by exact rfl) (λu=>?_) (λu=>?_)
    ·have h:=QJ u h;refine cA Z Z Z Z<|cA Z Z Z Z<|cA Z Z Z Z<|cA Z Z Z Z<|iH Z (LQ Z Z)<|bG Z<|cA Z Z Z Z<|cA Z Z Z Z<|cA Z Z Z Z<|cA Z Z Z Z<|cA Z Z Z Z<|cA Z Z Z Z<|cA Z Z Z Z<|cA Z Z Z Z<|bN 19 Z Z<|aN Z<|fK Z<|aM ?_;exact jP (true) () h SF Z
    have h:=ifN u h;refine iN Z .nil .nil (fZ Z) aK.z<|dH h λM h=>iN Z .nil (nA 2 Z) (bB Z Z (aE.el (aE.fact 0 Z) a.1 a.2) Z Z M) aK.z<|iN Z .nil (nA 2 Z) (bY Z (aE.el (aE.fact 0 Z) a.1 a.2) Z Z Z dJ M) aK.z<|iN Z .nil .nil (CU Z Z) aK.z<|iH Z (LP Z Z)<|bG Z ?_;refine Gr (by exact rfl) (by exact rfl) (by exact rfl) (λv=>?_) (λv=>?_)
    ·have h:=QJ v h;refine cA Z Z Z Z<|cA Z Z Z Z<|cA Z Z Z Z<|cA Z Z Z Z<|cA Z Z Z Z<|cA Z Z Z Z<|cA Z Z Z Z<|cA Z Z Z Z<|bN 19 Z Z<|aN Z<|fK Z<|aM ?_;exact jP (true) () h SF Z
    have h:=ifN v h;refine iN Z .nil .nil (fZ Z) aK.z<|dH h λN h=>iN Z .nil (nA 2 Z) (bB Z Z (aE.el (aE.fact 0 Z) a.1 a.2) Z Z N) aK.z<|iN Z .nil (nA 2 Z) (bY Z (aE.el (aE.fact 0 Z) a.1 a.2) Z Z Z dJ N) aK.z<|iN Z .nil .nil (fZ Z) aK.z<|dH h λq h=>iN Z .nil (nA 2 Z) (cL Z Z (aE.fact 0 Z) Z Z q) aK.z<|iN Z .nil (nA 2 Z) (cT Z (aE.fact 0 Z) Z Z q) aK.z<|dH h λO h=>iN Z .nil (nA 2 Z) (bB Z Z (aE.el (aE.fact 0 Z) q.1 q.2) Z Z O) aK.z<|iN Z .nil (nA 2 Z) (bY Z (aE.el (aE.fact 0 Z) q.1 q.2) Z Z Z dJ O) aK.z<|bN 19 Z Z<|aW Z (CU Z Z) Z<|iL Z<|aM ?_;exact jP (decide ((at' (at' p1 m) (3:Int))≠(at' (at' p1 (0:Int)) (3:Int)))) () h SF Z
   intro t J h;refine Bm h Z (λ_ h=>?_) λ_ h=>?_
   ·refine aU<|aD Z<|aM<|aS<|bM<|aI<|aI<|bM<|aI ?_;cases h;exact lI Z
   refine dX<|o_<|aR<|cP Z<|aA Z<|aM ?_;exact AT (wI .i64 (m+(1:Int))) () h SF Z
  refine gK ?_;exact jP () (()) h SF Z
 intro R b7 h;unfold Ag at h;refine aU<|aD Z<|aM<|aS ?_;cases h;exact lI Z
end Go.Proofs.YtmdlcmbplnhdnaaGreatDoor
section
set_option maxRecDepth 100000
namespace Go.Gx
open Go Go.Sx Go.Proofs Go.Proofs.YtmdlcmbplnhdnaaGreatDoor
noncomputable section
def afw (a:List GV) (H:GH):OR:=a1 a λb=>ob (Qr H b) λp0=>ob (gQ 1000 p0) λr=>SI r H
def afu (a:List GV) (H:GH):OR:=a2 a λb c=>ob (afh H b) λp0=>ob (ZK .i64 c) λp1=>ob (mH 1000 p0 p1) λr=>QY r H
def abh (a:List GV) (H:GH):OR:=a4 a λb c d e=>ob (Wc H b) λp0=>ob (ZK .i64 c) λp1=>ob (ZK .u32 d) λp2=>ob (ZK .u32 e) λp3=>ob (eZ 1000 p0 p1 p2 p3) λr=>SI r H
def afv (a:List GV) (H:GH):OR:=a4 a λb c d e=>ob (Wc H b) λp0=>ob (ZK .i64 c) λp1=>ob (ZK .u32 d) λp2=>ob (ZK .u32 e) λp3=>ob (eG 1000 p0 p1 p2 p3) λr=>some (.int .u32 r,H)
def afs (a:List GV) (H:GH):OR:=a2 a λb c=>ob (Qr H b) λp0=>ob (abd H c) λp1=>ob (gR 1000 p0 p1) λr=>SI r H
def Wy (f:Nat) (a:List GV) (H:GH):Option (GV×GH):=bif Nat.beq f 86 then afw a H else bif Nat.beq f 26 then afu a H else bif Nat.beq f 112 then abh a H else bif Nat.beq f 83 then afv a H else bif Nat.beq f 14 then afs a H else none
abbrev gl:Nat->xR:=glb 0 (cellsOf Hl wD)
def gp:GP:=⟨uW,72,Wy,Wx 190⟩
section
variable {T:Nat} {w0:d_ (gl T)} {w:World} {ρ:dG} {H H':GH} {g:GV} {us:List GV} {vs:List Value}
theorem aad (h:afw us H=some (g,H')) (R:eQ w0 ρ H w) (m:n_ ρ us vs):jX Tryz.prog w0 ρ 86 vs w g H':=by
 obtain⟨p,rfl,h⟩:=RG h;obtain⟨j,c,h⟩:=aB.1 h;obtain⟨r,l,h⟩:=aB.1 h;obtain⟨o,rfl,d⟩:=m.one;obtain⟨e,i,n,rfl,a,b⟩:=KF R d c;obtain⟨rfl,rfl⟩:=EQ h;exact BS Mb (xN 1000 (p0:=j) e i n r l) R (List.forall_mem_cons.2 ⟨a,List.forall_mem_cons.2 ⟨b,λf k=>absurd k List.not_mem_nil⟩⟩) λρ=> .bool _
theorem aab (h:afu us H=some (g,H')) (R:eQ w0 ρ H w) (i:n_ ρ us vs):jX Tryz.prog w0 ρ 26 vs w g H':=by
 obtain⟨z,A,rfl,h⟩:=LR h;obtain⟨o,d,h⟩:=aB.1 h;obtain⟨p,e,h⟩:=aB.1 h;obtain⟨r,v,h⟩:=aB.1 h;obtain⟨x,vs,rfl,j,i⟩:=i.of_cons;obtain⟨y,rfl,k⟩:=i.one;obtain⟨l,m,n,rfl,a,b,c⟩:=ZJ R j d;obtain rfl:=Da k e;obtain⟨q,s,t,rfl,rfl⟩:=Oy h;exact QG afk afl q s t VB (Al 1000 (p0:=o) (p1:=p) l m n r v) R (List.forall_mem_cons.2 ⟨a,List.forall_mem_cons.2 ⟨b,List.forall_mem_cons.2 ⟨c,λf u=>absurd u List.not_mem_nil⟩⟩⟩)
theorem WM (h:abh us H=some (g,H')) (R:eQ w0 ρ H w) (a:n_ ρ us vs):jX Tryz.prog w0 ρ 112 vs w g H':=by
 obtain⟨z,A,B,C,rfl,h⟩:=LS h;obtain⟨m,b,h⟩:=aB.1 h;obtain⟨n,c,h⟩:=aB.1 h;obtain⟨o,d,h⟩:=aB.1 h;obtain⟨p,e,h⟩:=aB.1 h;obtain⟨r,u,h⟩:=aB.1 h;obtain⟨q,vs,rfl,i,a⟩:=a.of_cons;obtain⟨v,vs,rfl,j,a⟩:=a.of_cons;obtain⟨x,vs,rfl,k,a⟩:=a.of_cons;obtain⟨y,rfl,l⟩:=a.one;have s:=NX R i b;obtain rfl:=Da j c;obtain rfl:=Da k d;obtain rfl:=Da l e;obtain⟨rfl,rfl⟩:=EQ h;exact BS RN (wA 1000 (p0:=m) (p1:=n) (p2:=o) (p3:=p) q r u) R (List.forall_mem_cons.2 ⟨s,List.forall_mem_cons.2 ⟨R.glb,λf t=>absurd t List.not_mem_nil⟩⟩) λρ=> .bool _
theorem aac (h:afv us H=some (g,H')) (R:eQ w0 ρ H w) (a:n_ ρ us vs):jX Tryz.prog w0 ρ 83 vs w g H':=by
 obtain⟨z,A,B,C,rfl,h⟩:=LS h;obtain⟨m,b,h⟩:=aB.1 h;obtain⟨n,c,h⟩:=aB.1 h;obtain⟨o,d,h⟩:=aB.1 h;obtain⟨p,e,h⟩:=aB.1 h;obtain⟨r,u,h⟩:=aB.1 h;obtain⟨q,vs,rfl,i,a⟩:=a.of_cons;obtain⟨v,vs,rfl,j,a⟩:=a.of_cons;obtain⟨x,vs,rfl,k,a⟩:=a.of_cons;obtain⟨y,rfl,l⟩:=a.one;have s:=NX R i b;obtain rfl:=Da j c;obtain rfl:=Da k d;obtain rfl:=Da l e;cases h;exact BS VL (wB 1000 (p0:=m) (p1:=n) (p2:=o) (p3:=p) q r u) R (List.forall_mem_cons.2 ⟨s,List.forall_mem_cons.2 ⟨R.glb,λf t=>absurd t List.not_mem_nil⟩⟩) λρ=> .int _ _
theorem aaa (h:afs us H=some (g,H')) (R:eQ w0 ρ H w) (e:n_ ρ us vs):jX Tryz.prog w0 ρ 14 vs w g H':=by
 obtain⟨x,y,rfl,h⟩:=LR h;obtain⟨m,c,h⟩:=aB.1 h;obtain⟨n,d,h⟩:=aB.1 h;obtain⟨r,s,h⟩:=aB.1 h;obtain⟨v,vs,rfl,i,e⟩:=e.of_cons;obtain⟨o,rfl,j⟩:=e.one;obtain⟨k,l,t,rfl,a,b⟩:=KF R i c;obtain⟨u,p⟩:=Wa R j d;obtain⟨rfl,rfl⟩:=EQ h;exact BS Qm (Bb 1000 (p0:=m) (p1:=n) k l t o u r s) R (List.forall_mem_cons.2 ⟨a,List.forall_mem_cons.2 ⟨b,List.forall_mem_cons.2 ⟨p,λf q=>absurd q List.not_mem_nil⟩⟩⟩) λρ=> .bool _
theorem Mo {f:Nat} (h:Wy f us H=some (g,H')) (R:eQ w0 ρ H w) (a:n_ ρ us vs):jX Tryz.prog w0 ρ f vs w g H':=by
 unfold Wy at h;cases b:Nat.beq f 86 with
 |true=>rw[b]at h;rw[Nat.eq_of_beq_eq_true b];exact aad h R a
 |false=>
 rw[b]at h;cases c:Nat.beq f 26 with
 |true=>rw[c]at h;rw[Nat.eq_of_beq_eq_true c];exact aab h R a
 |false=>
 rw[c]at h;cases d:Nat.beq f 112 with
 |true=>rw[d]at h;rw[Nat.eq_of_beq_eq_true d];exact WM h R a
 |false=>
 rw[d]at h;cases e:Nat.beq f 83 with
 |true=>rw[e]at h;rw[Nat.eq_of_beq_eq_true e];exact aac h R a
 |false=>
 rw[e]at h;cases i:Nat.beq f 14 with
 |true=>rw[i]at h;rw[Nat.eq_of_beq_eq_true i];exact aaa h R a
 |false=>
 rw[i]at h;cases h
end
theorem acP:afj Tryz.prog uW=true:=by kernel_rfl
theorem Ix:eI Tryz.prog uW:=⟨Pq,acO acP⟩
theorem adr {a:xR} (b:d_ a):qP Tryz.prog b (KD uW 98 Tryz.f98):=VQ Ix mixedOrders Tryz.func98 Tryz.call98 (by kernel_rfl)
theorem acJ (a:Array Value) (w:World) (c:a.size=2):CallsDIn (FR none) 0 Tryz.prog 97 a .returning w λe f g=>∃v,e = .returned v∧f = .returning∧LD w g:=by
 obtain⟨d,h,b⟩:=Xp (r:=Es uW (KD uW 98 Tryz.f98) (Mc Tryz.f97) (ZP uW (KD uW 98 Tryz.f98) (λ_ _ _ _=>none) (VO Tryz.f97) 0 ⟨[],0,[]⟩ (FS [])) (Mc Tryz.f97).tail ⟨[(ZG Tryz.f97,.inil)],H0⟩) (by kernel_rfl);exact TL (ch:=KD uW 98 Tryz.f98) (lp:=λ_ _ _ _=>none) Ix mixedOrders adr Hw Tryz.func97 Z Z Z (by decide +kernel) (λi w=>by simp[execOp,resolve,invoke,builtin]) (by kernel_rfl) (by kernel_rfl) Z (by rw[c];decide +kernel) h b
theorem afm {i:xR} {a:FuncId->List GV->GH->Option (GV×GH)} (o:∀(b:d_ i) {f us H g H'},a f us H=some (g,H')->∀c w d,eQ b c H w->n_ c us d->jX Tryz.prog b c f d w g H') (b:d_ i):Tn Tryz.prog ⟨uW,72,a,Wx 190⟩ Hb.fns b:=by
 refine⟨Ix,mixedOrders,λh=> ?_,o b,λh c w d H R n=>ZW Tryz.func190 Z Z Z Z h c w d H R n,λR l j k=> ?_⟩
 ·obtain⟨e,m,h⟩:=aB.1 (show ob (SU _) _=some _ from h);cases h;obtain⟨p,q,r⟩:=XF m;exact⟨p,q,Oz r⟩
 ·exact acB (tb:=uW) (T1:=3) (T2:=67) (cc:=97) Ix Tryz.func72 Tryz.call72 Tryz.call97 Z Z Z (RH (by kernel_rfl)) (RH (by kernel_rfl)) (S_ Z Z) (S_ Z Z) (Xb Z Z) (Xb Z Z) acJ R l j k
theorem WA {T:Nat} (a:d_ (gl T)):Tn Tryz.prog gp Hb.fns a:=afm (λa f d H g c h i w e R b=>Mo h R b) a
def gp0:GP:=⟨uW,72,λ_ _ _=>none,Wx 190⟩
theorem aiu (a:d_ noG):Tn Tryz.prog gp0 Hb.fns a:=afm (λa f c H g b h=>by cases h) a
end
end Go.Gx
end
