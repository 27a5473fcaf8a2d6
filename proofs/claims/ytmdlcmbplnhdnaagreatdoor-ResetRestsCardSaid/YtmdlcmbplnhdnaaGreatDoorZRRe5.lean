/- Models and proofs. Conditions: none. -/
import Derived.Test.YtmdlcmbplnhdnaaGreatDoorZRRe4
import Derived.Test.YtmdlcmbplnhdnaaGreatDoorZRRe2
set_option linter.unusedVariables false
set_option linter.unusedSimpArgs false
set_option maxHeartbeats 4000000
set_option maxRecDepth 20000
namespace Go.Gx
open Go Go.Sx
section
variable {P:Program} {gs:xM} {w0:dY gs} {w:World} {ρ:dD} {H:GH}
theorem BG {f:Nat} {a:List Value} {L:List aW} {V:Value} {g:GV} (c:aR P f) (d:aV P f a.toArray L (λ_:Unit=>V) (λ_ l=>l) (λ_ l=>l)) (R:eT w0 ρ H w) (b:∀h∈L,h.p w All) (i:∀ρ,Rl ρ g V):jM P w0 ρ f a w g H:=by
 refine .inr ⟨c _ w,(d w All b).mono ?_⟩;rintro e j ⟨_,rfl,t⟩;exact⟨V,ρ,rfl,dD.le_refl _,R.ext' t.old.ext,i _⟩
theorem Px {V W:Type} {e:cT V} {g:V->List GV} {q:cT W} {s:W->List GV} (hg:∀ρ x,nN ρ (g x) (e.enc x)) (I:∀ρ x,nN ρ (s x) (q.enc x)) {f:Nat} {S:List Value} {L:List aW} {r:List V×List (List W)} (C:r.1≠[]) (D:r.2≠[]) (h3:∀U∈r.2,U≠[]) (hb:aR P f)
  (hm:aV P f S.toArray L (λx:Value×Value×List Value=>Value.agg #[x.1,x.2.1]) (λx l=>Ar e x.1 r.1::Ar cT.raw x.2.1 x.2.2::kF q x.2.2 r.2::l) (λ_ l=>l)) (R:eT w0 ρ H w) (hL:∀h∈L,h.p w All):
  jM P w0 ρ f S w (.agg [.sl H.n 0 r.1.length e.sz,.sl (tC q.sz s r.2 (H.new (.cells (r.1.flatMap g)))).2.n 0 r.2.length 1]) ((tC q.sz s r.2 (H.new (.cells (r.1.flatMap g)))).2.new (.cells (tC q.sz s r.2 (H.new (.cells (r.1.flatMap g)))).1)):=by
 refine .inr ⟨hb _ w,(hm w All hL).mono ?_⟩;rintro en A ⟨x,rfl,t⟩;obtain⟨F,O,_⟩:=t.own;have q0:Ci _ A (F 0) x.1 r.1:=O.res 0 _ Z;have q1:Ci cT.raw A (F 1) x.2.1 x.2.2:=O.res 1 _ Z;obtain⟨z,G,q2,Q,q4⟩:(kF q x.2.2 r.2).p A (F 2):=O.res 2 _ Z;have R':=R.ext' t.old.ext;have E:∀i k,F i k->w.heap.size<=k:=λi k c=>by
  rcases(O.rng i k c).1 with h|h
  ·exact h
  exact h.elim
 obtain⟨X,y,R1,K,A1⟩:=Gh (B:=λk=>w.heap.size<=k) R' (λa o l C D=>DU.start R a o l C D) (λk c=> .inl (Nat.le_trans R.ext.size c)) (E 0) q0 C (Lo (hg ρ) r.1);obtain⟨ad,j,R2,M,A2⟩:=II I r.2 x.2.2 G _ X _ R1 A1 (λk c=> .inl (Nat.le_trans R.ext.size c.1)) z h3 q2 (λi k c=>⟨E _ _ (Q i k c),λu=>by have:=O.dis _ _ k (Q i k c) u;omega⟩) q4;have J:x.2.2≠[]:=λu=>by rw[u]at z;exact D (List.eq_nil_of_length_eq_zero z.symm)
 obtain⟨Y,m,R3,N,_⟩:=Gh (cs:=(tC q.sz s r.2 (H.new (.cells (r.1.flatMap g)))).1) (F:=F 1) R2 A2 (λk c=> .inl (Nat.le_trans R.ext.size c.1.1)) (λk c=>⟨⟨E _ _ c,λu=>by have:=O.dis _ _ k c u;omega⟩,λi hi=>by have:=O.dis _ _ k c (Q i k hi);omega⟩) q1 J (by rw[Kq];exact M);refine⟨_,Y,rfl,dD.le_trans y (dD.le_trans j m),R3,?_⟩
 refine EQ (vs:=[x.1,x.2.1]) (.cons ((K.le j).le m) (.cons (by rw[<-z];exact N) .nil)) λv hv=>?_;have d:∀{γ:Type} {e:cT γ} {F:Nat->Prop} {v:Value} {U:List γ},Ci e A F v U->one v=true:=λh=>by
  obtain⟨_,_,h⟩:=h;rcases h with⟨rfl,_⟩|⟨b,ac,aa,T,ab,rfl,_⟩<;>rfl
 simp at hv;rcases hv with rfl|rfl
 ·exact d q0
 exact d q1
end
noncomputable section
def JZ (H:GH) (v:GV):Option (List Int):=Ll H 1 (dI .i64) v
def UY (H:GH) (v:GV):Option (List (List (Int×Int))):=Ll H 1 (dS H 2 (dP 1 (dI .i64) (dI .i64))) v
def ZK (H:GH) (v:GV):Option (List (List Int)):=Ll H 1 (dS H 1 (dI .i64)) v
def Pj (H:GH) (v:GV):Option (List Int×List (List (Int×Int))):=ob v.asA λc=>List.casesOn (motive:=λ_=>Option (List Int×List (List (Int×Int)))) c none λa r=>List.casesOn (motive:=λ_=>Option (List Int×List (List (Int×Int)))) r none λb r=>List.casesOn (motive:=λ_=>Option (List Int×List (List (Int×Int)))) r (ob (JZ H a) λx=>ob (UY H b) λy=>some (x,y)) λ_ _=>none
end
section
variable {P:Program} {gs:xM} {w0:dY gs} {w:World} {ρ:dD} {H:GH}
theorem E_ (R:eT w0 ρ H w) {v:GV} {V:Value} {a:List Int} (b:Rl ρ v V) (h:JZ H v=some a):(Sl (dZ.int .i64) V a).p w All:=by
 obtain⟨d,rfl,c⟩:=BA R (λ_ _=>trivial) (gH.int .i64) b h;rw[List.map_id];exact c
theorem UX (R:eT w0 ρ H w) {v:GV} {V:Value} {b:List (List Int)} (c:Rl ρ v V) (h:ZK H v=some b):∃a,(S2 (dZ.int .i64) V a b).p w All:=by
 obtain⟨a,rfl,d⟩:=BA R (λ_ _=>trivial) (gH.sl R (λ_ _=>trivial) (gH.int .i64)) c h;exact⟨a,d,by simp⟩
theorem SK (R:eT w0 ρ H w) {v:GV} {V:Value} {b:List (List (Int×Int))} (c:Rl ρ v V) (h:UY H v=some b):∃a,(S2 (dZ.pair (dZ.int .i64) (dZ.int .i64)) V a b).p w All:=by
 obtain⟨a,rfl,d⟩:=BA R (λ_ _=>trivial) (gH.sl R (λ_ _=>trivial) (gH.pair (gH.int .i64) (gH.int .i64))) c h;exact⟨a,d,by simp⟩
theorem JY (R:eT w0 ρ H w) {v:GV} {V:Value} {p:List Int×List (List (Int×Int))} (j:Rl ρ v V) (h:Pj H v=some p):∃e f i,V = .agg #[e,f]∧(Sl (dZ.int .i64) e p.1).p w All∧(S2 (dZ.pair (dZ.int .i64) (dZ.int .i64)) f i p.2).p w All:=by
 obtain⟨c,g,h⟩:=aB.1 (show ob v.asA _=some p from h);rw[If g]at j;obtain⟨k,rfl,d,_⟩:=j.agg_inv;cases c with
 |nil=>cases h
 |cons a c=>
 cases c with
 |nil=>cases h
 |cons b c=>
 cases c with
 |cons _ _=>cases h
 |nil=>
 obtain⟨x,n,h⟩:=aB.1 (show ob (JZ H a) _=some p from h);obtain⟨y,o,h⟩:=aB.1 h;cases h;obtain⟨e,k,rfl,l,d⟩:=d.of_cons;obtain⟨f,k,rfl,m,d⟩:=d.of_cons;rw[d.of_nil];obtain⟨i,q⟩:=SK R m o;exact⟨e,f,i,rfl,E_ R l n,q⟩
end
noncomputable section
section
variable {α R:Type}
def a0 (a:List α) (k:Option R):Option R:=List.casesOn (motive:=λ_=>Option R) a k (λ_ _=>none)
def a1 (b:List α) (k:α->Option R):Option R:=List.casesOn (motive:=λ_=>Option R) b none λa r=>a0 r (k a)
def a2 (b:List α) (k:α->α->Option R):Option R:=List.casesOn (motive:=λ_=>Option R) b none λa r=>a1 r (k a)
def a3 (b:List α) (k:α->α->α->Option R):Option R:=List.casesOn (motive:=λ_=>Option R) b none λa r=>a2 r (k a)
def a4 (b:List α) (k:α->α->α->α->Option R):Option R:=List.casesOn (motive:=λ_=>Option R) b none λa r=>a3 r (k a)
def a5 (us:List α) (k:α->α->α->α->α->Option R):Option R:=List.casesOn (motive:=λ_=>Option R) us none λa r=>a4 r (k a)
def a6 (b:List α) (k:α->α->α->α->α->α->Option R):Option R:=List.casesOn (motive:=λ_=>Option R) b none λa r=>a5 r (k a)
theorem XJ {a:List α} {k:Option R} {r:R} (h:a0 a k=some r):a=[]∧k=some r:=by
 cases a with
 |nil=>exact⟨rfl,h⟩
 |cons _ _=>cases h
theorem Qr {a:List α} {k:α->Option R} {r:R} (h:a1 a k=some r):∃x,a=[x]∧k x=some r:=by
 cases a with
 |nil=>cases h
 |cons x a=>obtain⟨rfl,h⟩:=XJ h;exact⟨x,rfl,h⟩
theorem KX {a:List α} {k:α->α->Option R} {r:R} (h:a2 a k=some r):∃x y,a=[x,y]∧k x y=some r:=by
 cases a with
 |nil=>cases h
 |cons x a=>obtain⟨y,rfl,h⟩:=Qr h;exact⟨x,y,rfl,h⟩
theorem XK {a:List α} {k:α->α->α->Option R} {r:R} (h:a3 a k=some r):∃x y z,a=[x,y,z]∧k x y z=some r:=by
 cases a with
 |nil=>cases h
 |cons x a=>obtain⟨y,z,rfl,h⟩:=KX h;exact⟨x,y,z,rfl,h⟩
theorem KY {a:List α} {k:α->α->α->α->Option R} {r:R} (h:a4 a k=some r):∃x y z u,a=[x,y,z,u]∧k x y z u=some r:=by
 cases a with
 |nil=>cases h
 |cons x a=>obtain⟨y,z,u,rfl,h⟩:=XK h;exact⟨x,y,z,u,rfl,h⟩
theorem XL {a:List α} {k:α->α->α->α->α->Option R} {r:R} (h:a5 a k=some r):∃x y z u v,a=[x,y,z,u,v]∧k x y z u v=some r:=by
 cases a with
 |nil=>cases h
 |cons x a=>obtain⟨y,z,u,v,rfl,h⟩:=KY h;exact⟨x,y,z,u,v,rfl,h⟩
theorem XM {a:List α} {k:α->α->α->α->α->α->Option R} {r:R} (h:a6 a k=some r):∃x y z u v w,a=[x,y,z,u,v,w]∧k x y z u v w=some r:=by
 cases a with
 |nil=>cases h
 |cons x a=>obtain⟨y,z,u,v,w,rfl,h⟩:=XL h;exact⟨x,y,z,u,v,w,rfl,h⟩
end

def Yw (k:IntKind) (v:GV):Option Int:=ob v.asI λp=>bif eqK p.1 k then some p.2 else none
def UZ (H:GH) (v:GV):Option (List Int):=Ll H 1 (dI .u32) v
def adC (H:GH) (v:GV):Option (Int×List Int×List Int×List Int×Bool×Bool):=ob v.asA λg=>a6 g λa b c d e f=>ob (Yw .i64 a) λn=>ob (JZ H b) λx=>ob (JZ H c) λy=>ob (JZ H d) λz=>ob e.asB λp=>ob f.asB λq=>some (n,x,y,z,p,q)

def gI (n:Int):List GV:=[.int .i64 n]
def gP (p:Int×Int):List GV:=[.int .i64 p.1,.int .i64 p.2]
def fcI {R:Type} (l:List Int):(List Int->R)->R:=List.rec (motive:=λ_=>(List Int->R)->R) (λk=>k []) (λx _ a k=>fi x λx=>a λr=>k (x::r)) l
def fcP {R:Type} (l:List (Int×Int)):(List (Int×Int)->R)->R:=List.rec (motive:=λ_=>(List (Int×Int)->R)->R) (λk=>k []) (λx _ c k=>fi x.1 λa=>fi x.2 λb=>c λr=>k ((a,b)::r)) l
def fcR {R:Type} (l:List (List (Int×Int))):(List (List (Int×Int))->R)->R:=List.rec (motive:=λ_=>(List (List (Int×Int))->R)->R) (λk=>k []) (λx _ a k=>fcP x λx=>a λr=>k (x::r)) l
theorem Vl {R:Type}:∀(l:List Int) (k:List Int->R),fcI l k=k l
 | [],k=>rfl
 |x::l,k=>by
  show fi x (λx=>fcI l λr=>k (x::r))=_;rw[Kd,Vl l]
theorem Vm {R:Type}:∀(l:List (Int×Int)) (k:List (Int×Int)->R),fcP l k=k l
 | [],k=>rfl
 |x::l,k=>by
  show fi x.1 (λa=>fi x.2 λb=>fcP l λr=>k ((a,b)::r))=_;rw[Kd,Kd,Vm l]
theorem Vn {R:Type}:∀(l:List (List (Int×Int))) (k:List (List (Int×Int))->R),fcR l k=k l
 | [],k=>rfl
 |x::l,k=>by
  show fcP x (λx=>fcR l λr=>k (x::r))=_;rw[Vm,Vn l]
def Rs (b:Bool) (H:GH):OR:=Bool.casesOn (motive:=λ_=>OR) b (some (.bool false,H)) (some (.bool true,H))
def PK (r:List Int×List (List (Int×Int))) (H:GH):OR:=fcI r.1 λx=>fcR r.2 λy=>bif Nat.beq x.length 0 then none else bif Nat.beq y.length 0 then none else bif y.any λl=>Nat.beq l.length 0 then none else
 fc (x.flatMap gI) λl=>H.newK (.cells l) λh a=>fc (tC 2 gP y a).1 λd=>sn x.length λn=>sn y.length λm=>(tC 2 gP y a).2.newK (.cells d) λc b=>some (.agg [.sl h 0 n 1,.sl c 0 m 1],b)
end
section
variable {P:Program} {gs:xM} {w0:dY gs} {w:World} {ρ:dD} {H H':GH} {g:GV}
theorem nN.one {x:GV} {vs:List Value} (h:nN ρ [x] vs):∃V,vs=[V]∧Rl ρ x V:=by
 obtain⟨v,vs,rfl,a,b⟩:=h.of_cons;rw[b.of_nil];exact⟨v,rfl,a⟩
theorem CL {k:IntKind} {v:GV} {V:Value} {n:Int} (a:Rl ρ v V) (h:Yw k v=some n):V = .int k n:=by
 obtain⟨p,c,h⟩:=aB.1 (show ob v.asI _=some n from h);obtain⟨b,h⟩:=bK.1 h;cases h;rw[mO c]at a;rw[a.int_inv,Gd b]
theorem Uv {v:GV} {V:Value} {b:Bool} (a:Rl ρ v V) (h:v.asB=some b):V = .bool b:=by
 rw[AL h]at a;exact a.bool_inv
theorem MZ (R:eT w0 ρ H w) {v:GV} {V:Value} {a:List Int} (b:Rl ρ v V) (h:UZ H v=some a):(Sl (dZ.int .u32) V a).p w All:=by
 obtain⟨d,rfl,c⟩:=BA R (λ_ _=>trivial) (gH.int .u32) b h;rw[List.map_id];exact c
theorem Yv (R:eT w0 ρ H w) {v:GV} {V:Value} {p:Int×List Int×List Int×List Int×Bool×Bool} (l:Rl ρ v V) (h:adC H v=some p):
  ∃m o s,V = .agg #[.int .i64 p.1,m,o,s,.bool p.2.2.2.2.1,.bool p.2.2.2.2.2]∧(Sl (dZ.int .i64) m p.2.1).p w All∧(Sl (dZ.int .i64) o p.2.2.1).p w All∧(Sl (dZ.int .i64) s p.2.2.2.1).p w All:=by
 obtain⟨T,k,h⟩:=aB.1 (show ob v.asA _=some p from h);obtain⟨a,b,c,d,e,f,rfl,h⟩:=XM h;obtain⟨n,I,h⟩:=aB.1 h;obtain⟨x,L,h⟩:=aB.1 h;obtain⟨y,M,h⟩:=aB.1 h;obtain⟨z,N,h⟩:=aB.1 h;obtain⟨q,J,h⟩:=aB.1 h;obtain⟨r,K,h⟩:=aB.1 h;cases h;rw[If k]at l;obtain⟨j,rfl,i,_⟩:=l.agg_inv;obtain⟨U,j,rfl,B,i⟩:=i.of_cons;obtain⟨O,j,rfl,C,i⟩:=i.of_cons;obtain⟨Q,j,rfl,D,i⟩:=i.of_cons;obtain⟨S,j,rfl,E,i⟩:=i.of_cons;obtain⟨W,j,rfl,F,i⟩:=i.of_cons;obtain⟨X,rfl,G⟩:=i.one;have t:=CL B I;have u:=Uv F J;have A:=Uv G K;subst t u A;exact⟨O,Q,S,rfl,E_ R C L,E_ R D M,E_ R E N⟩
theorem Ev {b:Bool} (h:Rs b H=some (g,H')):g = .bool b∧H'=H:=by
 cases b<;>cases h<;>exact⟨rfl,rfl⟩
theorem Nz {r:List Int×List (List (Int×Int))} (h:PK r H=some (g,H')):r.1≠[]∧r.2≠[]∧(∀a∈r.2,a≠[])∧
  g = .agg [.sl H.n 0 r.1.length 1,.sl (tC 2 gP r.2 (H.new (.cells (r.1.flatMap gI)))).2.n 0 r.2.length 1]∧H'=(tC 2 gP r.2 (H.new (.cells (r.1.flatMap gI)))).2.new (.cells (tC 2 gP r.2 (H.new (.cells (r.1.flatMap gI)))).1):=by
 unfold PK at h;rw[Vl,Vn]at h;obtain⟨b,h⟩:=jY.1 h;obtain⟨c,h⟩:=jY.1 h;obtain⟨d,h⟩:=jY.1 h;rw[QU,hZ,QU,uP,uP,hZ]at h;cases h;refine⟨λe=>(by rw[e]at b;cases b),λe=>(by rw[e]at c;cases c),λa f e=>?_,rfl,rfl⟩
 have:=List.any_eq_false.1 d a f;rw[e]at this;exact this Z
theorem adJ (ρ:dD) (x:Int):nN ρ (gI x) [.int .i64 x]:= .cons (.int _ _) .nil
theorem adK (ρ:dD) (x:Int×Int):nN ρ (gP x) [.int .i64 x.1,.int .i64 x.2]:= .cons (.int _ _) (.cons (.int _ _) .nil)
def glb (b:Nat) (a:List Value) (T:Nat):xM:=⟨[(b,.cells a.toArray T (0,0))],[]⟩
theorem Vu {b:Nat} {a:List Value} (w:World) (S:Nat->Prop) (h:∀h∈[Gb b a],h.p w S):∃T,GE (glb b a T) w λ_=>False:=by
 obtain⟨_,T,c⟩:=h _ (List.mem_singleton.2 Z);exact⟨T,λp d=>by obtain rfl:=List.mem_singleton.1 d;exact⟨c,id⟩⟩
theorem eT.glb {b:Nat} {a:List Value} {T:Nat} {c:dY (glb b a T)} {w:World} {ρ:dD} {H:GH} (R:eT c ρ H w):(Gb b a).p w All:=⟨trivial,T,(R.glo _ (List.mem_singleton.2 Z)).1⟩
theorem LB {gs:Nat->xM} {f:Nat} {V:Value} {L:List aW} (q:∀w S,(∀h∈L,h.p w S)->∃T,GE (gs T) w λ_=>False) (r:aR P f) (y:∀ρ d,Rl ρ g d->d=V) (h:∀T (b:dY (gs T)),jM P b (λ_=>none) f [] b.w g H'):aV P f #[] L (λ_:Unit=>V) (λ_ l=>l) (λ_ l=>l):=by
 intro w0 o z;obtain⟨T,n⟩:=q w0 o z;rcases h T (.of w0 n)with⟨v,A,c,a,_⟩|⟨_,s⟩
 ·have x:=r #[] w0;rw[show([]:List Value).toArray = #[]from rfl]at a;rw[show(dY.of w0 n).w=w0 from rfl,x]at a;cases a
 refine s.mono ?_;rintro e A ⟨v,c,rfl,_,R,a⟩;exact⟨(),by rw[y _ _ a],R.ext,λ_ _=>False,⟨λi m u=>by simp at u,λi k h=>h.elim,λi j k h=>h.elim⟩,λf t=>by simp at t⟩

section
variable {tb:TB} {T:TypeId}
theorem Qw (h:AW tb T=some [wG]) (H:GH):mF tb T H=some (.ptr H.n 0,H.new (.cells [wG])):=by
 unfold mF;rw[h];show H.newK (.cells [wG]) (λh H'=>some (GV.ptr h 0,H'))=_;rw[hZ]
theorem RJ {t:Ty} (h:tb T=some t) (e:t.size=1) (H:GH) (k:Nat) (c:GV) (d:GH.cells H k=some [c]):lD tb T (.ptr k 0) wG H=some (.un,H.set k (.cells [wG])):=by
 show ob (H.cells k) (λb=>ob (tb T) λt=>bif Nat.beq 1 t.size then bif Nat.beq t.size 0 then none else ob (Fc [wG] 0 b) λa=>H.setK k (.cells a) λH'=>some (GV.un,H')else none)=_;rw[d,h];show(bif Nat.beq 1 t.size then bif Nat.beq t.size 0 then none else ob (Fc [wG] 0 [c]) λa=>H.setK k (.cells a) λH'=>some (GV.un,H')else none)=_;rw[e];show H.setK k (.cells [wG]) (λH'=>some (GV.un,H'))=_;rw[wL]
theorem VT {t:Ty} (h:tb T=some t) (b:uZ t.desc=false) (H:GH) (k:Nat) (c:GH.cells H k=some [wG]):sW tb T (.ptr k 0) H=some wG:=by
 show ob (H.cells k) (λa=>ob (tb T) λt=>AE t a 0)=_;rw[c,h];show AE t [wG] 0=_;unfold AE;rw[b];rfl
end
def Lh (a:Func):List Oper:=match a.body with
 |some (.seq (.region _ ops _) _)=>ops.toList
 |_=>[]
def UL (a:Func):Code:=match a.body with
 |some (.seq _ c)=>c
 |_=> .skip
def Yt (a:Func):Nat:=match Lh a with
 |o::_=>o.dst.getD 0
 | []=>0
def okN (r:RS):Bool:=match r with
 |some o=>match o.e with
  | .normal=>true
  |_=>false
 |none=>false
theorem Wh {r:RS} (h:okN r=true):∃a,r=some a∧a.e = .normal:=by
 unfold okN at h;cases r with
 |none=>cases h
 |some o=>
  refine⟨o,rfl,?_⟩
  cases b:o.e<;>simp only[b]at h<;>first|rfl|cases h
def okT (r:OR):Bool:=match r with
 |some (.bool true,_)=>true
 |_=>false
theorem Wi {r:OR} (h:okT r=true):∃H',r=some (.bool true,H'):=by
 unfold okT at h;split at h
 ·exact⟨_,rfl⟩
 ·cases h
end
end Go.Gx
namespace Go.Proofs.YtmdlcmbplnhdnaaGreatDoor
open Go.Sx
def mM  (a:Unit):Option (Bool):=
 some (true)
def gT (d:aP) (a:Int×List (Bool)) (c:(Int×List (Bool))->Option (Bool)) (b:Bool):Option (Bool):=
 if b=true then(some (false))else(ck ((0<=(at' d a.1)∧(at' d a.1)<((256:Nat):Int))∧List.length a.2=256) (c ((wI .i64 (a.1+(1:Int))),(List.set a.2 (Int.toNat (at' d a.1)) true))))
def fI (b:aP) (a:Int×List (Bool)) (c:(Int×List (Bool))->Option (Bool)):Option (Bool):=
 if a.1<(List.length b:Int)then(ck (0<=a.1∧a.1<(List.length b:Int)) (if(at' b a.1)<(0:Int)then(gT b a c (true))else(if(255:Int)<(at' b a.1)then(gT b a c (true))else(ck ((0<=(at' b a.1)∧(at' b a.1)<((256:Nat):Int))∧List.length a.2=256) (gT b a c ((at' a.2 (at' b a.1))))))))else(mM  (()))
def iN (U:Nat) (a:aP):Option (Bool):=
 bL (fI a) U ((0:Int),(List.replicate 256 false))
theorem XV:aR Tryz.prog 116:=Tryz.call116
theorem Df (U:Nat) {d:aP} (n:Value) (r:Bool) (h:iN U d=some r):
  aV Tryz.prog 116 #[n] [Sl bM n d] (λx:Unit=>vB (r)) (λx l=>l) (λ_ l=>l):=by
 refine aV.of Tryz.func116 Z Tryz.ntmps116 Z λc=>?_;unfold iN at h;refine aT<|aD Z<|aM<|aT ?_;refine aG (aL.alloc (cs:=cellsOf EBo (List.replicate 256 false)) Z (by kernel_rfl)) Z λm=>?_;refine aM<|aJ<|fU (λk=>mM  k=some r) (λk o=>[]) (λk o=>[]) ?_ ?_
 ·refine aT<|aA Z<|jX (aE.fact 0 Z) Z<|aA Z<|aM<|aU<|fD (fI d) (λa p=>[(3,vP m),(6,n),(7,vI (List.length d:Int)),(8,vI (a.1))]) (λa p=>[bV m (cellsOf EBo a.2) 204]) ((0:Int),(List.replicate 256 false)) () h SF (aY.refl _) ?_;intro q a p h;refine aT<|dA Z<|aM<|aJ ?_;refine fE h Z (λh=>?_) λh=>?_
  ·refine cU<|aJ<|aU<|aT<|dO h λg h=>aC (bE Z Z (aE.fact 0 Z) Z Z g) Z<|aC (b_ Z (aE.fact 0 Z) Z Z Z dU g) Z<|aD Z<|aM<|aJ<|aJ<|fU (λb=>gT d a (bL (fI d) q) b=some r) (λb f=>[(3,vP m),(5,vI (at' d a.1)),(6,n),(7,vI (List.length d:Int)),(8,vI (a.1)),(22,vB (b))]) (λb f=>[bV m (cellsOf EBo a.2) 204]) ?_ ?_
   ·refine aQ<|aA Z<|dA Z<|aA Z ?_;refine Es h Z (λ_ h=>?_) λ_ h=>?_
    ·refine aN Z<|aN Z<|fF Z<|aA Z<|aN Z<|aN Z<|aN Z<|fF Z<|aM ?_;exact jL (true) () h SF Z
    refine e_ Z<|aX Z (xP Z Z) Z<|iP Z<|aA Z ?_;refine Es h Z (λ_ h=>?_) λ_ h=>?_
    ·refine aN Z<|aN Z<|aN Z<|fF Z<|aM ?_;exact jL (true) () h SF Z
    refine e_ Z<|dO h λj h=>aX Z (nH Z Z Z Z Z j.1) Z<|aX Z (Sp (e:=EBo) Z (aE.res 0 Z) Z Z Z Z j) Z<|iP Z<|aM ?_;exact jL ((at' a.2 (at' d a.1))) () h SF Z
   intro b f h;refine A_ h Z (λ_ h=>?_) λ_ h=>?_
   ·refine aT<|aD Z<|aM<|aS<|aI<|bO<|aI<|aI<|bO<|aI ?_;cases h;exact uU Z
   refine cU<|aQ<|aA Z<|dO h λi h=>aC (nH Z Z Z Z Z i.1) Z<|HQ 0 (e:=EBo) true i Z Z Z Z Z Z Z<|eN<|oM<|aQ<|cQ Z<|aA Z<|aM ?_;exact AK ((wI .i64 (a.1+(1:Int))),(List.set a.2 (Int.toNat (at' d a.1)) true)) () h SF Z
  refine fS ?_;exact cV () (()) h SF .nil (aF.refl _ _)
 intro k o h;unfold mM at h;refine aT<|aD Z<|aM<|aS ?_;cases h;exact kW Z
def tW (c:(List ((Int×Int)×Int))) (a:(Int×Int)×Int) (b:Option (Bool)):Option (Bool):=
 if(Option.getD (lK (a.1.2,a.1.1) c) (0:Int))≠a.2 then(some (false))else(b)
def iB  (a:(List ((Int×Int)×Int))):Option (Bool):=
 Jz (tW a) (some (true)) a
def lS (b:Ha) (a:Kx->Option (Bool)) (c:(List ((Int×Int)×Int))):Option (Bool):=
 a ((wI .i64 (b.1+(1:Int))),c)
def iC (e:eY) (b:Ha) (a:Ha) (c:Kx->Option (Bool)) (d:Bool):Option (Bool):=
 if d=true then(some (false))else(if(Option.isSome (lK (b.1,((at' (at' e b.1) a.1).1)) a.2))=true then(some (false))else(c ((wI .i64 (a.1+(1:Int))),(BM (b.1,((at' (at' e b.1) a.1).1)) ((at' (at' e b.1) a.1).2) a.2))))
def gA (d:eY) (a:Ha) (b:Ha) (c:Kx->Option (Bool)) (e:Bool):Option (Bool):=
 if e=true then(some (false))else(if((at' (at' d a.1) b.1).2)<(1:Int)then(iC d a b c (true))else(iC d a b c (decide ((15:Int)<((at' (at' d a.1) b.1).2)))))
def cA (d:eY) (a:Ha) (e:Kx->Option (Bool)) (b:Ha) (c:Kx->Option (Bool)):Option (Bool):=
 if b.1<(List.length (at' d a.1):Int)then(ck (0<=b.1∧b.1<(List.length (at' d a.1):Int)) (if((at' (at' d a.1) b.1).1)<(0:Int)then(gA d a b c (true))else(if(List.length d:Int)<=((at' (at' d a.1) b.1).1)then(gA d a b c (true))else(gA d a b c (decide (((at' (at' d a.1) b.1).1)=a.1))))))else(lS a e (b.2))
def cN (U:Nat) (c:eY) (a:Ha) (b:Kx->Option (Bool)):Option (Bool):=
 if a.1<(List.length c:Int)then(ck (0<=a.1∧a.1<(List.length c:Int)) (bL (cA c a b) U ((0:Int),a.2)))else(iB  (a.2))
def fQ (U:Nat) (a:eY):Option (Bool):=
 bL (cN U a) U ((0:Int),([]:List ((Int×Int)×Int)))
theorem XW:aR Tryz.prog 117:=Tryz.call117
theorem FH (U:Nat) {f:eY} (n:Value)  (F:lA) (r:Bool) (h:fQ U f=some r):
  aV Tryz.prog 117 #[n] [S2 a_ n F f] (λx:Unit=>vB (r)) (λx l=>l) (λ_ l=>l):=by
 refine aV.of Tryz.func117 Z Tryz.ntmps117 Z λc=>?_;unfold fQ at h;refine aT<|aD Z<|aM<|aT<|aG (aL.makeMap mG Of) Z λk=>aD Z<|aM<|aJ<|fU (λq=>iB  q=some r) (λq H=>[(3,Value.map (some k))]) (λq H=>[Mp mG Of k q]) ?_ ?_
 ·refine aT<|aA Z<|aC (iX Z (aE.fact 0 Z) Z) Z<|aA Z<|aM<|aU<|fD (cN U f) (λd y=>[(0,n),(3,Value.map (some k)),(14,n),(15,vI (List.length f:Int)),(16,vI (d.1))]) (λd y=>[Mp mG Of k d.2]) ((0:Int),([]:List ((Int×Int)×Int))) () h SF (aY.refl _) ?_;intro t d y h;refine aT<|dA Z<|aM<|aJ ?_;refine fE h Z (λh=>?_) λh=>?_
  ·refine cU<|aJ<|fU (λm=>lS d (bL (cN U f) t) m=some r) (λm z=>[(0,n),(3,Value.map (some k)),(14,n),(15,vI (List.length f:Int)),(16,vI (d.1))]) (λm z=>[Mp mG Of k m]) ?_ ?_
   ·refine aU<|aT<|aA Z<|dO h λj h=>aC (c_ Z Z (aE.fact 0 Z) Z Z j) Z<|aC (dB Z (aE.fact 0 Z) Z Z j) Z<|aD Z<|aD Z<|aM<|aT<|aA Z<|aC (iU Z (aE.el (aE.fact 0 Z) j.1 j.2) Z) Z<|aA Z<|aM<|aU<|fD (cA f d (bL (cN U f) t)) (λe A=>[(0,n),(3,Value.map (some k)),(4,vI (d.1)),(14,n),(15,vI (List.length f:Int)),(16,vI (d.1)),(21,(at' F d.1).1),(22,vI (List.length (at' f d.1):Int)),(23,vI (e.1))]) (λe A=>[Mp mG Of k e.2]) ((0:Int),d.2) () h SF (aY.refl _) ?_;intro E e A h;refine aT<|dA Z<|aM<|aJ ?_;refine fE h Z (λh=>?_) λh=>?_
    ·refine cU<|aJ<|aU<|aT<|dO h λD h=>aC (bE Z Z (aE.el (aE.fact 0 Z) j.1 j.2) Z Z D) Z<|aC (h_ (cs:=[vI ((at' (at' f d.1) e.1).1),vI ((at' (at' f d.1) e.1).2)]) Z (aE.el (aE.fact 0 Z) j.1 j.2) bQ Z Z Z Z D) Z<|aG (aL.alloc (cs:=Tz) Z Z) Z λs=>bN 0 (vs:=[vI ((at' (at' f d.1) e.1).1),vI ((at' (at' f d.1) e.1).2)]) Z Z Z Z Z Z<|aM<|aJ<|aJ<|fU (λo=>gA f d e (bL (cA f d (bL (cN U f) t)) E) o=some r) (λo B=>[(0,n),(3,Value.map (some k)),(4,vI (d.1)),(7,vP s),(14,n),(15,vI (List.length f:Int)),(16,vI (d.1)),(21,(at' F d.1).1),(22,vI (List.length (at' f d.1):Int)),(23,vI (e.1)),(42,vB (o))]) (λo B=>[bV s [vI ((at' (at' f d.1) e.1).1),vI ((at' (at' f d.1) e.1).2)] 92,Mp mG Of k e.2]) ?_ ?_
     ·refine aQ<|bU Z<|dL 0 Z<|dA Z<|aA Z ?_;refine Es h Z (λ_ h=>?_) λ_ h=>?_
      ·refine aN Z<|aN Z<|aN Z<|aN Z<|aN Z<|fF Z<|aA Z<|aN Z<|aN Z<|aN Z<|aN Z<|fF Z<|aM ?_;exact jL (true) () h SF Z
      refine aX Z (eQ Z Z Z Z Z) Z<|aX Z (fV 0 Z Z Z Z Z) Z<|e_ Z<|aX Z (iX Z (aE.fact 0 Z) Z) Z<|aX Z (EV Z Z) Z<|iP Z<|aA Z ?_;refine Es h Z (λ_ h=>?_) λ_ h=>?_
      ·refine aN Z<|aN Z<|aN Z<|aN Z<|fF Z<|aM ?_;exact jL (true) () h SF Z
      refine aX Z (eQ Z Z Z Z Z) Z<|aX Z (fV 0 Z Z Z Z Z) Z<|e_ Z<|aX Z (Qn Z Z) Z<|iP Z<|aM ?_;exact jL (decide (((at' (at' f d.1) e.1).1)=d.1)) () h SF Z
     intro o B h;refine A_ h Z (λ_ h=>?_) λ_ h=>?_
     ·refine aT<|aD Z<|aM<|aS<|aI<|bO<|aI<|aI<|bO<|bO<|aI<|aI<|bO<|aI ?_;cases h;exact uU Z
     refine cU<|aJ<|aJ<|fU (λp=>iC f d e (bL (cA f d (bL (cN U f) t)) E) p=some r) (λp C=>[(0,n),(3,Value.map (some k)),(4,vI (d.1)),(7,vP s),(14,n),(15,vI (List.length f:Int)),(16,vI (d.1)),(21,(at' F d.1).1),(22,vI (List.length (at' f d.1):Int)),(23,vI (e.1)),(50,vB (p))]) (λp C=>[bV s [vI ((at' (at' f d.1) e.1).1),vI ((at' (at' f d.1) e.1).2)] 92,Mp mG Of k e.2]) ?_ ?_
     ·refine aQ<|bU Z<|dL 0 Z<|dA Z<|aA Z ?_;refine Es h Z (λ_ h=>?_) λ_ h=>?_
      ·refine aN Z<|aN Z<|aN Z<|fF Z<|aM ?_;exact jL (true) () h SF Z
      refine aX Z (eQ Z Z Z Z Z) Z<|aX Z (fV 0 Z Z Z Z Z) Z<|aX Z (xP Z Z) Z<|iP Z<|aM ?_;exact jL (decide ((15:Int)<((at' (at' f d.1) e.1).2))) () h SF Z
     intro p C h;refine A_ h Z (λ_ h=>?_) λ_ h=>?_
     ·refine aT<|aD Z<|aM<|aS<|aI<|bO<|aI<|aI<|bO<|bO<|aI<|aI<|bO<|aI ?_;cases h;exact uU Z
     refine cU<|aT<|aA Z<|bU Z<|dL 0 Z ?_;refine aC (Br (r:=Value.agg #[vI (d.1),vI ((at' (at' f d.1) e.1).1)]) Z Z (by intro w;simp[Instr.build,Instr.fill,dH,cW,cH,dJ,dK,cX,eI])) Z ?_;refine aG (aL.alloc (cs:=Tz) Z Z) Z λK=>bN 0 (vs:=[vI (d.1),vI ((at' (at' f d.1) e.1).1)]) Z Z Z Z Z Z<|aM<|aJ<|aT<|aA Z<|dW 0 Z ?_;refine aC (ML 2 ((d.1,((at' (at' f d.1) e.1).1))) (u:=vI (Option.getD (lK (d.1,((at' (at' f d.1) e.1).1)) e.2) (0:Int))) Ly Z Z Z Z Z (by cases lK ((d.1,((at' (at' f d.1) e.1).1))) e.2<;>rfl)) Z ?_;refine aA Z<|g_ Z<|g_ Z<|aD Z<|aD Z<|aM<|aT<|aA Z<|aM ?_;refine A_ h Z (λ_ h=>?_) λ_ h=>?_
     ·refine aT<|aD Z<|aM<|aS<|aI<|bO<|aI<|aI<|bO<|bO<|aI<|aI<|bO<|aI ?_;cases h;exact uU Z
     refine cU<|aQ<|aA Z<|dW 0 Z<|bU Z<|dL 1 Z<|Mi 2 ((d.1,((at' (at' f d.1) e.1).1))) ((at' (at' f d.1) e.1).2) Ly Z Z Z Z Z<|eN<|oM<|aQ<|cQ Z<|aA Z<|aM ?_;exact lM ((wI .i64 (e.1+(1:Int))),(BM (d.1,((at' (at' f d.1) e.1).1)) ((at' (at' f d.1) e.1).2) e.2)) () h SF (aY.ix [2] Z Z) (aF.refl _ _)
    refine uV<|gK<|gK<|Av<|oM ?_;exact jL (e.2) () h SF Z
   intro m z h;unfold lS at h;refine aQ<|cQ Z<|aA Z<|aM ?_;exact AK ((wI .i64 (d.1+(1:Int))),m) () h SF Z
  refine fS ?_;exact jL (d.2) () h SF Z
 intro q H h;unfold iB at h;refine aJ<|aT<|aA Z<|aG (aL.range 0 Z Z Z) Z λI=>aM<|aU<|Xz [(3,Value.map (some k)),(69,vP I)] [It I k (List.length q) ([]),Mp mG Of k q] [S2 a_ n F f] SF (aY.refl _) (aF.refl _ _) ?_;refine Sc (tW q) 1 0 (by intro a b x;unfold tW;repeat' split;all_goals first|rfl|contradiction|simp_all) h Z Z Z Z Z Z ?_ ?_
 ·skip
  intro g N G M v h;refine aU<|aT<|aG (aL.entry 1 0 v Z Z Z) Z λL=>g_ Z<|g_ Z<|aG (aL.alloc (cs:=Tz) Z Z) Z λJ=>bN 0 (vs:=[vI (g.1.1),vI (g.1.2)]) Z Z Z Z Z Z<|aD Z<|aM<|aT<|aA Z ?_;refine aC (nH (i:=1) Z Z Z Z Z (by decide)) Z ?_;refine dL 0 Z ?_;refine aC (nH (i:=0) Z Z Z Z Z (by decide)) Z ?_;refine dL 0 Z ?_;refine aC (Br (r:=Value.agg #[vI (g.1.2),vI (g.1.1)]) Z Z (by intro w;simp[Instr.build,Instr.fill,dH,cW,cH,dJ,dK,cX,eI])) Z ?_;refine aC (ML 2 ((g.1.2,g.1.1)) (u:=vI (Option.getD (lK (g.1.2,g.1.1) q) (0:Int))) Ly Z Z Z Z Z (by cases lK ((g.1.2,g.1.1)) q<;>rfl)) Z ?_;refine aA Z<|qD Z<|aM ?_;refine fE h Z (λh=>?_) λh=>?_
  ·refine aT<|aD Z<|aM<|aS<|bO<|aI<|bO<|aI ?_;cases h;exact uU Z
  refine dX<|oM ?_;exact OE h SF (aY.ix [1,2] Z Z) (aF.refl _ _)
 intro G h;refine Av<|Aw<|aT<|aD Z<|aM<|aS ?_;cases h;exact uU Z
def oL  (a:Bool):Option (Bool):=
 some (a)
def oK (U:Nat) (b:cE) (c:Bool):Option (Bool):=
 if c=true then(some (false))else(Option.bind (iN U b.1) λd=>(if d=true then(Option.bind (fQ U b.2) λa=>(oL  (a)))else(oL  (false))))
def gG (U:Nat) (a:cE):Option (Bool):=
 if(List.length a.1:Int)<(1:Int)then(oK U a (true))else(if(24:Int)<(List.length a.1:Int)then(oK U a (true))else(oK U a (decide ((List.length a.2:Int)≠(List.length a.1:Int)))))
theorem Lg:aR Tryz.prog 86:=Tryz.call86
theorem xI (U:Nat) {p0:cE} (f:Value)  (g:Value)  (o:lA) (r:Bool) (h:gG U p0=some r):
  aV Tryz.prog 86 #[Value.agg #[f,g]] [Sl bM f p0.1,S2 a_ g o p0.2] (λx:Unit=>vB (r)) (λx l=>l) (λ_ l=>l):=by
 refine aV.of Tryz.func86 Z Tryz.ntmps86 Z λc=>?_;refine aT<|aG (aL.box (cs:=[f,g]) Z Z) Z λk=>aD Z<|aM<|aT<|bU Z<|dL 0 Z<|jX (aE.fact 0 Z) Z<|aD Z<|aM<|aJ<|aJ<|fU (λb=>oK U p0 b=some r) (λb m=>[(1,vP k),(19,vB (b))]) (λb m=>[bV k [f,g] 29]) ?_ ?_
 ·refine aQ<|aA Z<|dA Z<|aA Z ?_;refine Es h Z (λ_ h=>?_) λ_ h=>?_
  ·refine aN Z<|aN Z<|fF Z<|aA Z<|aN Z<|aN Z<|aN Z<|aN Z<|aN Z<|fF Z<|aM ?_;exact jL (true) () h SF Z
  refine e_ Z<|aX Z (xP Z Z) Z<|iP Z<|aA Z ?_;refine Es h Z (λ_ h=>?_) λ_ h=>?_
  ·refine aN Z<|aN Z<|aN Z<|aN Z<|aN Z<|fF Z<|aM ?_;exact jL (true) () h SF Z
  refine aX Z (eQ Z Z Z Z Z) Z<|aX Z (fV 0 Z Z Z Z Z) Z<|aX Z (iX Z (aE.fact 1 Z) Z) Z<|e_ Z<|aX Z (EW Z Z) Z<|iP Z<|aM ?_;exact jL (decide ((List.length p0.2:Int)≠(List.length p0.1:Int))) () h SF Z
 intro b m h;refine A_ h Z (λ_ h=>?_) λ_ h=>?_
 ·refine aT<|aD Z<|aM<|aS<|aI ?_;cases h;exact uU Z
 refine cU<|aJ<|fU (λd=>oL  d=some r) (λd n=>[(2,vB (d))]) (λd n=>[]) ?_ ?_
 ·refine aQ<|bU Z<|dL 0 Z<|eZ h λp i h=>aG (aL.callQ XV (Df U f p i) Z (nK [0] Z)) Z λq=>aA Z ?_;refine Bm (by exact rfl) (by exact rfl) (λa=>?_) (λa=>?_)
  ·have h:=Ra a h;refine aX Z (eQ Z Z Z Z Z) Z<|aX Z (fV 0 Z Z Z Z Z) Z<|eZ h λe j h=>uW Z (aL.callQ XW (FH U g o e j) Z (nK [1] Z)) Z λs=>fF Z<|aD Z<|aM ?_;exact cV (e) () h SF .nil (aF.refl _ _)
  have h:=Ni a h;refine aN Z<|aN Z<|aN Z<|iP Z<|aD Z<|aM ?_;exact cV (false) () h SF .nil (aF.refl _ _)
 intro d n h;unfold oL at h;refine aS ?_;cases h;exact kW Z
def pT  (a:Int):Option (Int):=
 some (a)
def gE (U:Nat) (b:Int) (a:Int):Option (Int):=
 if a<(1:Int)then(some (0:Int))else(ck (a≠0) (if(Int.tmod b a)<(0:Int)then(pT  (wI .i64 ((Int.tmod b a)+a)))else(pT  (Int.tmod b a))))
theorem CG:aR Tryz.prog 19:=Tryz.call19
theorem kM (U:Nat) {d:Int} {b:Int} (r:Int) (h:gE U d b=some r):
  aV Tryz.prog 19 #[vI (d),vI (b)] [] (λx:Unit=>vI (r)) (λx l=>l) (λ_ l=>l):=by
 refine aV.of Tryz.func19 Z Tryz.ntmps19 Z λc=>?_;refine aT<|aD Z<|aM<|aJ<|aT<|aA Z<|dA Z<|aM ?_;refine fE h Z (λh=>?_) λh=>?_
 ·refine aT<|aD Z<|aM<|aS<|aI ?_;cases h;exact kW Z
 refine cU<|aT<|aA Z<|aA Z<|dO h λf h=>aC (MM Z Z f) Z<|aD Z<|aM<|aJ<|fU (λa=>pT  a=some r) (λa e=>[(0,vI (a))]) (λa e=>[]) ?_ ?_
 ·refine aT<|aA Z<|dA Z<|aM ?_;refine fE h Z (λh=>?_) λh=>?_
  ·refine aQ<|aA Z<|aA Z<|cQ Z<|aD Z<|aM ?_;exact jL (wI .i64 ((Int.tmod d b)+b)) () h SF Z
  refine cU ?_;exact jL (Int.tmod d b) () h SF Z
 intro a e h;unfold pT at h;refine aT<|aA Z<|aD Z<|aM<|aS ?_;cases h;exact kW Z
def qU (U:Nat) (b:aP) (a:Int):Option (Int):=
 if a<(List.length b:Int)then(ck (0<=a∧a<(List.length b:Int)) (some (at' b a)))else(some (0:Int))
theorem Ih:aR Tryz.prog 30:=Tryz.call30
theorem Al (U:Nat) {b:aP} {d:Int} (e:Value) (r:Int) (h:qU U b d=some r):
  aV Tryz.prog 30 #[e,vI (d)] [Sl bM e b] (λx:Unit=>vI (r)) (λx l=>l) (λ_ l=>l):=by
 refine aV.of Tryz.func30 Z Tryz.ntmps30 Z λc=>?_;refine aT<|aD Z<|aM<|aJ<|aT<|aA Z<|aA Z<|jX (aE.fact 0 Z) Z<|dA Z<|aM ?_;refine fE h Z (λh=>?_) λh=>?_
 ·refine aT<|aA Z<|aA Z<|dO h λa h=>aC (bE Z Z (aE.fact 0 Z) Z Z a) Z<|aC (b_ Z (aE.fact 0 Z) Z Z Z dU a) Z<|aD Z<|aM<|aS<|aI ?_;cases h;exact kW Z
 refine cU<|aT<|aD Z<|aM<|aS ?_;cases h;exact kW Z
def tR  (a:Unit):Option (Bool):=
 some (false)
def yK (c:cE) (a:Int) (e:Int) (b:Int) (d:(Int)->Option (Bool)):Option (Bool):=
 ck (0<=a∧a<(List.length c.2:Int)) (if b<(List.length (at' c.2 a):Int)then(ck (0<=a∧a<(List.length c.2:Int)) (ck (0<=b∧b<(List.length (at' c.2 a):Int)) (if((at' (at' c.2 a) b).1)=e then(some (true))else(d (wI .i64 (b+(1:Int)))))))else(tR  (())))
def mB (U:Nat) (a:cE) (b:Int) (c:Int):Option (Bool):=
 bL (yK a b c) U (0:Int)
theorem aaM:aR Tryz.prog 75:=Tryz.call75
theorem Jm (U:Nat) {g:cE} {i:Int} {j:Int} (k:Value)  (m:Value)  (q:lA) (r:Bool) (h:mB U g i j=some r):
  aV Tryz.prog 75 #[Value.agg #[k,m],vI (i),vI (j)] [Sl bM k g.1,S2 a_ m q g.2] (λx:Unit=>vB (r)) (λx l=>l) (λ_ l=>l):=by
 refine aV.of Tryz.func75 Z Tryz.ntmps75 Z λc=>?_;unfold mB at h;refine aT<|aG (aL.box (cs:=[k,m]) Z Z) Z λn=>aD Z<|aM<|aJ<|fU (λd=>tR  d=some r) (λd o=>[]) (λd o=>[]) ?_ ?_
 ·refine aT<|aD Z<|aM<|aU<|fD (yK g i j) (λe p=>[(1,vI (i)),(2,vI (j)),(3,vP n),(7,vI (e))]) (λe p=>[bV n [k,m] 29]) (0:Int) () h SF (aY.refl _) ?_;intro s e p h;refine aJ<|aT<|aA Z<|bU Z<|dL 0 Z<|aA Z<|dO h λf h=>aC (c_ Z Z (aE.fact 1 Z) Z Z f) Z<|aC (dB Z (aE.fact 1 Z) Z Z f) Z<|aC (iU Z (aE.el (aE.fact 1 Z) f.1 f.2) Z) Z<|dA Z<|aM ?_;refine fE h Z (λh=>?_) λh=>?_
  ·refine cU<|aJ<|aU<|aT<|bU Z<|dL 0 Z<|aA Z<|dO h λa h=>aC (c_ Z Z (aE.fact 1 Z) Z Z a) Z<|aC (dB Z (aE.fact 1 Z) Z Z a) Z<|aA Z<|dO h λb h=>aC (bE Z Z (aE.el (aE.fact 1 Z) a.1 a.2) Z Z b) Z<|aC (oC Z Z Z Z Z) Z<|aC (p_ Z (aE.el (aE.fact 1 Z) a.1 a.2) Z Z Z Bo b) Z<|aA Z<|cJ Z<|aM ?_;refine fE h Z (λh=>?_) λh=>?_
   ·refine aT<|aD Z<|aM<|aS<|bO<|aI<|aI<|bO<|aI ?_;cases h;exact uU Z
   refine dX<|oM<|aQ<|aA Z<|cQ Z<|aD Z<|aM ?_;exact AK (wI .i64 (e+(1:Int))) () h SF Z
  refine fS ?_;exact cV () (()) h SF .nil (aF.refl _ _)
 intro d o h;unfold tR at h;refine aT<|aD Z<|aM<|aS ?_;cases h;exact kW Z
def nP (f:Cu) (c:cE) (a:Int) (b:Int) (d:Int) (e:Bool):Option (eY):=
 if e=true then(some (c.2))else(if f.2.2.2.2.2=true then(ck (0<=a∧a<(List.length c.2:Int)) (ck ((List.length ([(b,d)]):Int)+(List.length (at' c.2 a):Int)<=1099511627) (ck (0<=a∧a<(List.length c.2:Int)) (ck (0<=b∧b<(List.length (List.set c.2 (Int.toNat a) (([(b,d)])++(at' c.2 a))):Int)) (ck ((List.length ([(a,d)]):Int)+(List.length (at' (List.set c.2 (Int.toNat a) (([(b,d)])++(at' c.2 a))) b):Int)<=1099511627) (ck (0<=b∧b<(List.length (List.set c.2 (Int.toNat a) (([(b,d)])++(at' c.2 a))):Int)) (some (List.set (List.set c.2 (Int.toNat a) (([(b,d)])++(at' c.2 a))) (Int.toNat b) (([(a,d)])++(at' (List.set c.2 (Int.toNat a) (([(b,d)])++(at' c.2 a))) b))))))))))else(ck (0<=a∧a<(List.length c.2:Int)) (ck (0<=b∧b<(List.length c.2:Int)) (ck ((List.length (at' c.2 a):Int)+(List.length ([(b,d)]):Int)<=1099511627) (ck ((List.length (at' c.2 b):Int)+(List.length ([(a,d)]):Int)<=1099511627) (ck (Int.toNat a≠Int.toNat b) (ck (0<=a∧a<(List.length (List.set (List.set c.2 (Int.toNat a) ((at' c.2 a)++([(b,d)]))) (Int.toNat b) ((at' c.2 b)++([(a,d)]))):Int)) (ck (0<=b∧b<(List.length (List.set (List.set c.2 (Int.toNat a) ((at' c.2 a)++([(b,d)]))) (Int.toNat b) ((at' c.2 b)++([(a,d)]))):Int)) (some (List.set (List.set c.2 (Int.toNat a) ((at' c.2 a)++([(b,d)]))) (Int.toNat b) ((at' c.2 b)++([(a,d)]))))))))))))
def lW (U:Nat) (e:Cu) (a:cE) (b:Int) (c:Int) (f:Int):Option (eY):=
 if b=c then(nP e a b c f (true))else(Option.bind (mB U ((a.1,a.2)) b c) λd=>(nP e a b c f (d)))
theorem UE:aR Tryz.prog 46:=Tryz.call46
theorem Ag (U:Nat) {s:Cu} {G:cE} {f:Int} {g:Int} {d:Int} (J:Value)  (K:Value)  (L:Value)  (H:Value)  (C:Value)  (A:eW) (r:eY) (h:lW U s G f g d=some r):
  Ek Tryz.prog 46 #[Value.agg #[vI (s.1),J,K,L,vB (s.2.2.2.2.1),vB (s.2.2.2.2.2)],Value.agg #[H,C],vI (f),vI (g),vI (d)] [Ar cT.raw C A,kF bZ A G.2] [Sl bM J s.2.1,Sl bM K s.2.2.1,Sl bM L s.2.2.2.1,Sl bM H G.1] (λx:eW=>Value.tuple #[]) (λx l=>Ar cT.raw C x::kF bZ x r::l):=by
 refine Ek.of (vs:=[Value.agg #[vI (s.1),J,K,L,vB (s.2.2.2.2.1),vB (s.2.2.2.2.2)],Value.agg #[H,C],vI (f),vI (g),vI (d)]) Tryz.func46 Z Tryz.ntmps46 Z λc=>?_;refine aT<|aG (aL.box (cs:=[vI (s.1),J,K,L,vB (s.2.2.2.2.1),vB (s.2.2.2.2.2)]) Z Z) Z λb1=>aG (aL.box (cs:=[H,C]) Z Z) Z λb2=>aM<|aJ<|aJ<|zK (B:=Unit) (λI=>nP s G f g d I=some r) (λI b5=>[(2,vI (f)),(3,vI (g)),(4,vI (d)),(5,vP b1),(6,vP b2),(20,vB (I))]) (λI b5=>[bV b2 [H,C] 29,bV b1 [vI (s.1),J,K,L,vB (s.2.2.2.2.1),vB (s.2.2.2.2.2)] 24,Ar cT.raw C A,kF bZ A G.2]) (λI b5=>[Sl bM J s.2.1,Sl bM K s.2.2.1,Sl bM L s.2.2.2.1,Sl bM H G.1]) ?_ ?_
 ·refine aQ<|aA Z<|aA Z<|cJ Z<|aA Z ?_;refine Es h Z (λ_ h=>?_) λ_ h=>?_
  ·refine aN Z<|aN Z<|aN Z<|aN Z<|fF Z<|aM ?_;exact jL (true) () h SF Z
  refine aX Z (fY 0 Z Z Z Z) Z<|e_ Z<|e_ Z<|eZ h λav au h=>uW Z (aL.callQ aaM (Jm U H C (List.zip A G.2) av au) Z (aF.cons (aE.fact 3 Z) (aF.cons (bT (i:=2) (j:=3) Z Z bQ) .nil))) Z λa9=>iP Z<|aM ?_;exact jL (av) () h SF Z
 intro I b5 h;refine A_ h Z (λ_ h=>?_) λ_ h=>?_
 ·refine aS<|aI ?_;cases h;exact EL (A) Z Z .ret (.inl Z) (aY.ix [2,3] Z Z) aF.nil
 refine cU<|aT<|aA Z<|aA Z ?_;refine aC (Br (r:=Value.agg #[vI (g),vI (d)]) Z Z (by intro w;simp[Instr.build,Instr.fill,dH,cW,cH,dJ,dK,cX,eI])) Z ?_;refine aA Z<|aA Z ?_;refine aC (Br (r:=Value.agg #[vI (f),vI (d)]) Z Z (by intro w;simp[Instr.build,Instr.fill,dH,cW,cH,dJ,dK,cX,eI])) Z ?_;refine aG (aL.alloc (cs:=Tz) Z Z) Z λb7=>aG (aL.alloc (cs:=Tz) Z Z) Z λb8=>bN 1 (vs:=[vI (g),vI (d)]) Z Z Z Z Z Z<|bN 0 (vs:=[vI (f),vI (d)]) Z Z Z Z Z Z<|aM<|aJ<|aT<|bU Z<|dL 3 Z<|aM ?_;refine A_ h Z (λ_ h=>?_) λ_ h=>?_
 ·refine aJ ?_;refine JR.start [0,1,0,0,8,0,32,0,224,480,1016,2047,4095] 11 mixedOrders (by decide +kernel) ?_;refine JR.open (by exact rfl) ?_;refine cR Z<|gY 2 Z<|bH Z<|kS 1 Z<|JR.loud Z Z Z (bW (e:=bZ) ([((g,d))]) [(0,Value.agg #[vI (g),vI (d)])] Z Z Z Z (xR (vI (g)) (vI (d))) Z Z Z) Z (λaU=>(rY [([3],[])] Z)) λaU=>iD Z (eQ Z Z Z Z Z)<|bJ Z (aY.cons 3 Z .nil) .nil (fV 0 Z Z Z Z Z) (aO.h (aY.ix [2] Z Z) .nil aO.z)<|iD Z (iY Z)<|dO h λu h=>dG (cZ 6 Z) λM=>?_;refine bJ Z (aY.cons 5 Z .nil) .nil (gM 0 Z Z Z Z Z u.1 (by have m:=u.2;have n:=M;(try simp only[List.length_set]at m);(try simp only[List.length_set]at n);(try simp only[List.length_set]);omega)) (aO.h (aY.ix [4] Z Z) .nil aO.z) ?_;refine dG (cZ 6 Z) λN=>bJ Z (aY.cons 5 Z .nil) .nil (kP 0 Z Z N Z Z u) (aO.h (aY.ix [4] Z Z) .nil aO.z)<|dO h λaP h=>JR.loud Z Z Z (eL 0 bQ Z Z Z (aE.row (j:=6) Z bQ u.1 u.2) Z Z Z Z aP Z) Z (λaw=>(rY [([3],[])] Z)) λaw=>bR 11 Z Z<|dO h λv h=>aC (c_ Z Z (bT (i:=5) (j:=6) Z Z bQ) Z Z v) Z<|bX (Know.one ((bG (aE.res 0 Z) bQ))) λak=>iW (wN (k:=f) 6 0 Z Z Z v) ?_;refine nF 4 5 ⟨v.1,by first|exact v.2|simpa using v.2⟩ Z Z Z Z Z (by simp) ak Z ?_;refine aM<|aJ ?_;refine JR.start [0,1,0,0,8,0,32,0,224,480,1016,2047,4095] 11 mixedOrders (by decide +kernel) ?_;refine JR.open (by exact rfl) ?_;refine cR Z<|gY 2 Z<|bH Z<|kS 0 Z<|JR.loud Z Z Z (bW (e:=bZ) ([((f,d))]) [(0,Value.agg #[vI (f),vI (d)])] Z Z Z Z (xR (vI (f)) (vI (d))) Z Z Z) Z (λaV=>(rY [([3],[])] Z)) λaV=>iD Z (eQ Z Z Z Z Z)<|bJ Z (aY.cons 3 Z .nil) .nil (fV 0 Z Z Z Z Z) (aO.h (aY.ix [2] Z Z) .nil aO.z)<|iD Z (iY Z)<|dO h λt h=>dG (cZ 6 Z) λO=>?_;refine bJ Z (aY.cons 5 Z .nil) .nil (gM 0 Z Z Z Z Z t.1 (by have m:=t.2;have n:=O;(try simp only[List.length_set]at m);(try simp only[List.length_set]at n);(try simp only[List.length_set]);omega)) (aO.h (aY.ix [4] Z Z) .nil aO.z) ?_;refine dG (cZ 6 Z) λP=>bJ Z (aY.cons 5 Z .nil) .nil (kP 0 Z Z P Z Z t) (aO.h (aY.ix [4] Z Z) .nil aO.z)<|dO h λaR h=>JR.loud Z Z Z (eL 0 bQ Z Z Z (aE.row (j:=6) Z bQ t.1 (by first|exact t.2|simpa using t.2)) Z Z Z Z aR Z) Z (λax=>(rY [([3],[])] Z)) λax=>?_;refine bR 11 Z Z<|dO h λy h=>aC (c_ Z Z (bT (i:=5) (j:=6) Z Z bQ) Z Z y) Z<|bX (Know.one ((bG (aE.res 0 Z) bQ))) λal=>iW (wN (k:=g) 6 0 Z Z Z y) ?_;refine nF 4 5 ⟨y.1,by first|exact y.2|simpa using y.2⟩ Z Z Z Z Z (by simp) al Z ?_;refine aM<|aS<|aI ?_;cases h;exact EL (List.set (List.set A (Int.toNat f) aw) (Int.toNat g) ax) Z Z .ret (.inl Z) (aY.ix [4,5] Z Z) aF.nil
 refine cU<|dO h λp h=>dO h λq h=>dO h λD h=>dO h λE h=>dO h λF h=>dO h λa h=>dO h λb h=>Sf [0,1,0,0,8,0,0,64,0,448,960,0,2048,8128,0,16384,0,114688,245760,0,524288,2097088,4194247,8388551,16777215,33554431] 24 [[0,1,2,3,4,5,6,7,8,9,10,11,14,15,16,17,18,19,12,13,20,21,22,23,24,25],[0,1,2,3,4,5,6,7,8,9,10,11,14,15,16,17,18,19,12,20,13,21,22,23,24,25],[0,1,2,3,4,5,6,7,8,9,10,11,14,15,16,17,18,19,20,12,13,21,22,23,24,25]] mixedOrders (by decide +kernel) (by decide +kernel) ?_;intro o ho;simp only[List.mem_cons,List.not_mem_nil,or_false]at ho;rcases ho with rfl|rfl|rfl
 ·refine cR Z<|gY 2 Z<|bH Z<|cR Z<|gY 2 Z<|bH Z<|cR Z<|gY 2 Z<|bH Z<|dG (cZ 5 Z) λQ=>?_;refine bJ Z (aY.cons 4 Z .nil) .nil (gM 0 Z Z Z Z Z p.1 (by have m:=p.2;have n:=Q;(try simp only[List.length_set]at m);(try simp only[List.length_set]at n);(try simp only[List.length_set]);omega)) aO.z ?_;refine dG (cZ 5 Z) λR=>bJ Z (aY.cons 4 Z .nil) .nil (kP 0 Z Z R Z Z p) aO.z<|kS 1 Z<|cR Z<|gY 2 Z<|bH Z<|dG (cZ 5 Z) λS=>?_;refine bJ Z (aY.cons 4 Z .nil) .nil (gM 0 Z Z Z Z Z q.1 (by have m:=q.2;have n:=S;(try simp only[List.length_set]at m);(try simp only[List.length_set]at n);(try simp only[List.length_set]);omega)) aO.z ?_;refine dG (cZ 5 Z) λT=>bJ Z (aY.cons 4 Z .nil) .nil (kP 0 Z Z T Z Z q) aO.z<|kS 0 Z<|JR.loud Z Z Z (bW (e:=bZ) ([((g,d))]) [(0,Value.agg #[vI (g),vI (d)])] Z Z Z Z (xR (vI (g)) (vI (d))) Z Z Z) Z (λaW=>(rY [([1],[]),([5],[]),([5],[]),([3],[]),([5],[]),([5],[]),([3],[]),([3],[]),([3],[])] Z)) λaW=>JR.loud Z Z Z (mP 6 bQ Z Z Z (bG (aE.res 0 Z) bQ) Z Z Z Z p D Z) Z (λay=>(rY [([1],[]),([5],[]),([5],[]),([3],[]),([3],[]),([3],[])] Z)) λay=>JR.loud Z Z Z (bW (e:=bZ) ([((f,d))]) [(0,Value.agg #[vI (f),vI (d)])] Z Z Z Z (xR (vI (f)) (vI (d))) Z Z Z) Z (λa0=>(rY [([6],[]),([6],[]),([4],[]),([3],[]),([6],[]),([6],[]),([4],[]),([4],[]),([4],[])] Z)) λa0=>JR.loud Z Z Z (xX (j:=f) 7 bQ Z Z Z (bG (aE.res 0 Z) bQ) Z Z Z Z q E Z F) Z (λaz=>(rY [([4],[]),([4],[])] Z)) λaz=>dG (cZ 7 Z) λV=>?_;refine bJ Z (aY.cons 6 Z .nil) .nil (gM 0 Z Z Z Z Z a.1 (by have m:=a.2;have n:=V;(try simp only[List.length_set]at m);(try simp only[List.length_set]at n);(try simp only[List.length_set]);omega)) (hkI Z) ?_;refine dG (Bn (k:=f) (j:=g) 7 Z (by omega) ⟨a.1,by first|exact a.2|simpa using a.2⟩) λam=>?_;refine Cw Z Z Z (AI 6 7 ⟨a.1,by first|exact a.2|simpa using a.2⟩ Z Z Z Z (by simp) am Z) (λa6=>(rY [([4],[])] Z)) λa6=>?_;refine bR 24 Z Z<|bX (cZ 7 Z) λW=>?_;refine aC (gM 6 Z Z Z Z Z b.1 (by have m:=b.2;have n:=W;(try simp only[List.length_set]at m);(try simp only[List.length_set]at n);(try simp only[List.length_set]);omega)) Z ?_;refine bX (xN 7 (k:=g) Z ⟨b.1,by first|exact b.2|simpa using b.2⟩) λan=>?_;refine nF 6 7 ⟨b.1,by first|exact b.2|simpa using b.2⟩ Z Z Z Z Z (by simp) an Z ?_;refine eN ?_;cases h;exact EL (List.set (List.set A (Int.toNat f) ay) (Int.toNat g) az) Z Z .normal (.inr Z) (aY.ix [6,7] Z Z) aF.nil
 ·refine cR Z<|gY 2 Z<|bH Z<|cR Z<|gY 2 Z<|bH Z<|cR Z<|gY 2 Z<|bH Z<|dG (cZ 5 Z) λX=>?_;refine bJ Z (aY.cons 4 Z .nil) .nil (gM 0 Z Z Z Z Z p.1 (by have m:=p.2;have n:=X;(try simp only[List.length_set]at m);(try simp only[List.length_set]at n);(try simp only[List.length_set]);omega)) aO.z ?_;refine dG (cZ 5 Z) λY=>bJ Z (aY.cons 4 Z .nil) .nil (kP 0 Z Z Y Z Z p) aO.z<|kS 1 Z<|cR Z<|gY 2 Z<|bH Z<|dG (cZ 5 Z) λaa=>?_;refine bJ Z (aY.cons 4 Z .nil) .nil (gM 0 Z Z Z Z Z q.1 (by have m:=q.2;have n:=aa;(try simp only[List.length_set]at m);(try simp only[List.length_set]at n);(try simp only[List.length_set]);omega)) aO.z ?_;refine dG (cZ 5 Z) λab=>bJ Z (aY.cons 4 Z .nil) .nil (kP 0 Z Z ab Z Z q) aO.z<|kS 0 Z<|JR.loud Z Z Z (bW (e:=bZ) ([((g,d))]) [(0,Value.agg #[vI (g),vI (d)])] Z Z Z Z (xR (vI (g)) (vI (d))) Z Z Z) Z (λa1=>(rY [([1],[]),([5],[]),([5],[]),([3],[]),([5],[]),([5],[]),([3],[]),([3],[]),([3],[])] Z)) λa1=>JR.loud Z Z Z (bW (e:=bZ) ([((f,d))]) [(0,Value.agg #[vI (f),vI (d)])] Z Z Z Z (xR (vI (f)) (vI (d))) Z Z Z) Z (λa2=>(rY [([6],[]),([6],[]),([4],[]),([3],[]),([6],[]),([6],[]),([4],[]),([4],[]),([4],[])] Z)) λa2=>JR.loud Z Z Z (mP 7 bQ Z Z Z (bG (aE.res 1 Z) bQ) Z Z Z Z p D Z) Z (λaB=>(rY [([2],[]),([6],[]),([6],[]),([4],[]),([4],[]),([4],[])] Z)) λaB=>JR.loud Z Z Z (xX (j:=f) 7 bQ Z Z Z (bG (aE.res 0 Z) bQ) Z Z Z Z q E Z F) Z (λaD=>(rY [([4],[]),([4],[])] Z)) λaD=>dG (cZ 7 Z) λac=>?_;refine bJ Z (aY.cons 6 Z .nil) .nil (gM 0 Z Z Z Z Z a.1 (by have m:=a.2;have n:=ac;(try simp only[List.length_set]at m);(try simp only[List.length_set]at n);(try simp only[List.length_set]);omega)) (hkI Z) ?_;refine dG (Bn (k:=f) (j:=g) 7 Z (by omega) ⟨a.1,by first|exact a.2|simpa using a.2⟩) λao=>?_;refine Cw Z Z Z (AI 6 7 ⟨a.1,by first|exact a.2|simpa using a.2⟩ Z Z Z Z (by simp) ao Z) (λa7=>(rY [([4],[])] Z)) λa7=>?_;refine bR 24 Z Z<|bX (cZ 7 Z) λad=>?_;refine aC (gM 6 Z Z Z Z Z b.1 (by have m:=b.2;have n:=ad;(try simp only[List.length_set]at m);(try simp only[List.length_set]at n);(try simp only[List.length_set]);omega)) Z ?_;refine bX (xN 7 (k:=g) Z ⟨b.1,by first|exact b.2|simpa using b.2⟩) λap=>?_;refine nF 6 7 ⟨b.1,by first|exact b.2|simpa using b.2⟩ Z Z Z Z Z (by simp) ap Z ?_;refine eN ?_;cases h;exact EL (List.set (List.set A (Int.toNat f) aB) (Int.toNat g) aD) Z Z .normal (.inr Z) (aY.ix [6,7] Z Z) aF.nil
 refine cR Z<|gY 2 Z<|bH Z<|cR Z<|gY 2 Z<|bH Z<|cR Z<|gY 2 Z<|bH Z<|dG (cZ 5 Z) λae=>?_;refine bJ Z (aY.cons 4 Z .nil) .nil (gM 0 Z Z Z Z Z p.1 (by have m:=p.2;have n:=ae;(try simp only[List.length_set]at m);(try simp only[List.length_set]at n);(try simp only[List.length_set]);omega)) aO.z ?_;refine dG (cZ 5 Z) λaf=>bJ Z (aY.cons 4 Z .nil) .nil (kP 0 Z Z af Z Z p) aO.z<|kS 1 Z<|cR Z<|gY 2 Z<|bH Z<|dG (cZ 5 Z) λag=>?_;refine bJ Z (aY.cons 4 Z .nil) .nil (gM 0 Z Z Z Z Z q.1 (by have m:=q.2;have n:=ag;(try simp only[List.length_set]at m);(try simp only[List.length_set]at n);(try simp only[List.length_set]);omega)) aO.z ?_;refine dG (cZ 5 Z) λah=>bJ Z (aY.cons 4 Z .nil) .nil (kP 0 Z Z ah Z Z q) aO.z<|kS 0 Z<|JR.loud Z Z Z (bW (e:=bZ) ([((f,d))]) [(0,Value.agg #[vI (f),vI (d)])] Z Z Z Z (xR (vI (f)) (vI (d))) Z Z Z) Z (λa3=>(rY [([5],[]),([5],[]),([3],[]),([2],[]),([5],[]),([5],[]),([3],[]),([3],[]),([3],[])] Z)) λa3=>JR.loud Z Z Z (bW (e:=bZ) ([((g,d))]) [(0,Value.agg #[vI (g),vI (d)])] Z Z Z Z (xR (vI (g)) (vI (d))) Z Z Z) Z (λa5=>(rY [([2],[]),([6],[]),([6],[]),([4],[]),([6],[]),([6],[]),([4],[]),([4],[]),([4],[])] Z)) λa5=>JR.loud Z Z Z (mP 7 bQ Z Z Z (bG (aE.res 0 Z) bQ) Z Z Z Z p D Z) Z (λaH=>(rY [([2],[]),([6],[]),([6],[]),([4],[]),([4],[]),([4],[])] Z)) λaH=>JR.loud Z Z Z (xX (j:=f) 7 bQ Z Z Z (bG (aE.res 1 Z) bQ) Z Z Z Z q E Z F) Z (λaK=>(rY [([4],[]),([4],[])] Z)) λaK=>dG (cZ 7 Z) λai=>?_;refine bJ Z (aY.cons 6 Z .nil) .nil (gM 0 Z Z Z Z Z a.1 (by have m:=a.2;have n:=ai;(try simp only[List.length_set]at m);(try simp only[List.length_set]at n);(try simp only[List.length_set]);omega)) (hkI Z) ?_;refine dG (Bn (k:=f) (j:=g) 7 Z (by omega) ⟨a.1,by first|exact a.2|simpa using a.2⟩) λaq=>?_;refine Cw Z Z Z (AI 6 7 ⟨a.1,by first|exact a.2|simpa using a.2⟩ Z Z Z Z (by simp) aq Z) (λa8=>(rY [([4],[])] Z)) λa8=>?_;refine bR 24 Z Z<|bX (cZ 7 Z) λaj=>?_;refine aC (gM 6 Z Z Z Z Z b.1 (by have m:=b.2;have n:=aj;(try simp only[List.length_set]at m);(try simp only[List.length_set]at n);(try simp only[List.length_set]);omega)) Z ?_;refine bX (xN 7 (k:=g) Z ⟨b.1,by first|exact b.2|simpa using b.2⟩) λar=>?_;refine nF 6 7 ⟨b.1,by first|exact b.2|simpa using b.2⟩ Z Z Z Z Z (by simp) ar Z ?_;refine eN ?_;cases h;exact EL (List.set (List.set A (Int.toNat f) aH) (Int.toNat g) aK) Z Z .normal (.inr Z) (aY.ix [6,7] Z Z) aF.nil
def mZ (b:Int) (a:aP):Option rU:=
 some ((a,(List.replicate (Int.toNat (wI .i64 ((1:Int)+b))) ([]:eS))))
def qN (a:mN) (c:wD->Option rU) (b:Int):Option rU:=
 ck ((List.length a.2:Int)+(List.length ([b]):Int)<=1099511627) (c ((wI .i64 (a.1+(1:Int))),(a.2++[b])))
def kG (b:iQ->Option rU) (a:fG):Option rU:=
 b (a.1,(wI .i64 (a.2+(1:Int))))
def kH (b:mN) (d:wD->Option rU) (a:fG) (c:iQ->Option rU):Option rU:=
 if a.2<b.1 then(ck (0<=a.2∧a.2<(List.length b.2:Int)) (if(at' b.2 a.2)=a.1 then(ck ((256:Int)≠0) (kG c ((Int.tmod (wI .i64 (a.1+(1:Int))) (256:Int)),(-1:Int))))else(kG c (a.1,a.2))))else(qN b d (a.1))
def iH (U:Nat) (f:Cu) (e:Int) (a:mN) (b:wD->Option rU):Option rU:=
 if a.1<(wI .i64 ((1:Int)+e))then(Option.bind (qU U f.2.2.2.1 a.1) λc=>(Option.bind (gE U c (256:Int)) λd=>(bL (kH a b) U (d,(0:Int)))))else(mZ e (a.2))
def nV (U:Nat) (b:Cu) (c:Int):Option rU:=
 Option.bind (gE U (wI .i64 (b.1 - (1:Int))) c) λa=>(ck (0<=(wI .i64 ((1:Int)+a))∧(wI .i64 ((1:Int)+a))<=1099511627) (bL (iH U b a) U ((0:Int),([]:aP))))
theorem aaD:aR Tryz.prog 47:=Tryz.call47
theorem DR (U:Nat) {d:Cu} {S:Int} (y:Value)  (z:Value)  (u:Value) (r:(aP×eY)) (h:nV U d S=some r):
  aV Tryz.prog 47 #[Value.agg #[vI (d.1),y,z,u,vB (d.2.2.2.2.1),vB (d.2.2.2.2.2)],vI (S)] [Sl bM y d.2.1,Sl bM z d.2.2.1,Sl bM u d.2.2.2.1] (λx:Value×Value×List Value=>Value.agg #[x.1,x.2.1]) (λx l=>Ar cD x.1 r.1::Ar cT.raw x.2.1 x.2.2::kF bZ x.2.2 r.2::l) (λ_ l=>l):=by
 refine aV.of Tryz.func47 Z Tryz.ntmps47 Z λc=>?_;refine aT<|aG (aL.box (cs:=[vI (d.1),y,z,u,vB (d.2.2.2.2.1),vB (d.2.2.2.2.2)]) Z Z) Z λt=>aG (aL.alloc (cs:=[kE,kE]) Z Z) Z λq=>aM<|aT<|bU Z<|dL 1 Z<|aC (pX Z Z) Z<|aA Z<|eZ h λb W h=>aG (aL.callQ CG (kM U  b W) Z .nil) Z λx5=>cQ Z<|aD Z<|aM<|aT<|aA Z<|dO h λT h=>iW (uF bZ (Int.toNat (wI .i64 ((1:Int)+b))))<|aG (pC (e:=cT.raw) (kE) Z Z Z Z T Z Z Z) Z λn=>bX (Know.one (aE.sl (bT (i:=0) (j:=1) Z Z bQ))) λK=>?_;refine aC (Um (r:=Value.agg #[kE,n]) Z (by intro w;simp[Instr.build,Instr.fill,dH,cW,cH,dJ,dK,cX,eI,eR K])) Z ?_;refine aG (aL.alloc (cs:=[kE,kE]) Z Z) Z λs=>bX (Know.one (aE.sl (bT (i:=1) (j:=2) Z Z bQ))) λE=>bN 0 (vs:=[kE,n]) Z Z (jK Z (jK E Z)) Z Z Z<|aM<|aJ<|Cr (B:=Value) (λp=>mZ b p=some r) (λp o=>[(4,vP q),(6,vP s)]) (λp o=>[bV s [o,n] 29,Ar cT.raw n (List.replicate (Int.toNat (wI .i64 ((1:Int)+b))) (kE)),kF bZ (List.replicate (Int.toNat (wI .i64 ((1:Int)+b))) (kE)) (List.replicate (Int.toNat (wI .i64 ((1:Int)+b))) ([]:eS)),bV q [kE,kE] 29,Ar cD o p]) ?_ ?_
 ·refine aT<|aD Z<|aM<|aU<|iW (gR cD)<|fD (B:=Value) (iH U d b) (λa f=>[(2,vP t),(4,vP q),(5,vI (wI .i64 ((1:Int)+b))),(6,vP s),(7,vI (a.1))]) (λa f=>[bV s [f,n] 29,Ar cT.raw n (List.replicate (Int.toNat (wI .i64 ((1:Int)+b))) (kE)),kF bZ (List.replicate (Int.toNat (wI .i64 ((1:Int)+b))) (kE)) (List.replicate (Int.toNat (wI .i64 ((1:Int)+b))) ([]:eS)),bV q [kE,kE] 29,bV t [vI (d.1),y,z,u,vB (d.2.2.2.2.1),vB (d.2.2.2.2.2)] 24,Ar cD f a.2]) ((0:Int),([]:aP)) (kE) h SF (aY.ix [1,2,3,4,5,0] Z Z) ?_;intro v a f h;refine aJ<|aT<|aA Z<|aA Z<|dA Z<|aM ?_;refine fE h Z (λh=>?_) λh=>?_
  ·refine cU<|aJ<|aU<|aT<|bU Z<|dL 4 Z<|aA Z<|eZ h λO Q h=>aG (aL.callQ Ih (Al U u O Q) Z (nK [2] Z)) Z λX=>eZ h λJ R h=>aG (aL.callQ CG (kM U  J R) Z .nil) Z λY=>aD Z<|aM<|aJ<|fU (λg=>qN a (bL (iH U d b) v) g=some r) (λg A=>[(2,vP t),(4,vP q),(5,vI (wI .i64 ((1:Int)+b))),(6,vP s),(7,vI (a.1)),(8,vI (g))]) (λg A=>[bV s [f,n] 29,Ar cT.raw n (List.replicate (Int.toNat (wI .i64 ((1:Int)+b))) (kE)),kF bZ (List.replicate (Int.toNat (wI .i64 ((1:Int)+b))) (kE)) (List.replicate (Int.toNat (wI .i64 ((1:Int)+b))) ([]:eS)),bV q [kE,kE] 29,bV t [vI (d.1),y,z,u,vB (d.2.2.2.2.1),vB (d.2.2.2.2.2)] 24,Ar cD f a.2]) ?_ ?_
   ·refine aT<|aD Z<|aM<|aU<|fD (kH a (bL (iH U d b) v)) (λk C=>[(2,vP t),(4,vP q),(5,vI (wI .i64 ((1:Int)+b))),(6,vP s),(7,vI (a.1)),(8,vI (k.1)),(9,vI (k.2))]) (λk C=>[bV s [f,n] 29,Ar cT.raw n (List.replicate (Int.toNat (wI .i64 ((1:Int)+b))) (kE)),kF bZ (List.replicate (Int.toNat (wI .i64 ((1:Int)+b))) (kE)) (List.replicate (Int.toNat (wI .i64 ((1:Int)+b))) ([]:eS)),bV q [kE,kE] 29,bV t [vI (d.1),y,z,u,vB (d.2.2.2.2.1),vB (d.2.2.2.2.2)] 24,Ar cD f a.2]) (J,(0:Int)) () h SF (aY.refl _) ?_;intro N k C h;refine aJ<|aT<|aA Z<|aA Z<|dA Z<|aM ?_;refine fE h Z (λh=>?_) λh=>?_
    ·refine cU<|aJ<|fU (λm=>kG (bL (kH a (bL (iH U d b) v)) N) m=some r) (λm D=>[(2,vP t),(4,vP q),(5,vI (wI .i64 ((1:Int)+b))),(6,vP s),(7,vI (a.1)),(8,vI (m.1)),(9,vI (m.2))]) (λm D=>[bV s [f,n] 29,Ar cT.raw n (List.replicate (Int.toNat (wI .i64 ((1:Int)+b))) (kE)),kF bZ (List.replicate (Int.toNat (wI .i64 ((1:Int)+b))) (kE)) (List.replicate (Int.toNat (wI .i64 ((1:Int)+b))) ([]:eS)),bV q [kE,kE] 29,bV t [vI (d.1),y,z,u,vB (d.2.2.2.2.1),vB (d.2.2.2.2.2)] 24,Ar cD f a.2]) ?_ ?_
     ·refine aU<|aT<|bU Z<|dL 0 Z<|aA Z<|dO h λI h=>aC (bE Z Z (bG (aE.res 5 Z) eG) Z Z I) Z<|aC (b_ Z (bG (aE.res 5 Z) eG) Z Z Z dU I) Z<|aA Z<|cJ Z<|aM ?_;refine fE h Z (λh=>?_) λh=>?_
      ·refine aQ<|aA Z<|cQ Z<|dO h λM h=>aC (MM Z Z M) Z<|aD Z<|aD Z<|eN<|oM ?_;exact jL ((Int.tmod (wI .i64 (k.1+(1:Int))) (256:Int)),(-1:Int)) () h SF Z
      refine dX<|oM ?_;exact jL (k.1,k.2) () h SF Z
     intro m D h;unfold kG at h;refine aQ<|aA Z<|cQ Z<|aD Z<|aM ?_;exact AK (m.1,(wI .i64 (m.2+(1:Int)))) () h SF Z
    refine fS ?_;exact jL (k.1) () h SF Z
   intro g A h;refine aQ<|bU Z<|dL 0 Z<|aA Z<|aG (bW (e:=cD) ([g]) [(0,vI (g))] Z Z Z Z (lQ (vI (g)) Z) Z Z Z) Z λV=>dO h λL h=>aG (eL 6 eG Z Z Z (bG (aE.res 0 Z) eG) Z Z Z Z L Z) Z λP=>bU Z<|bX (Know.one ((bG (aE.res 6 Z) eG))) λH=>fX 1 Z Z H Z Z Z<|eN<|oM<|aQ<|aA Z<|cQ Z<|aD Z<|aM ?_;exact lM ((wI .i64 (a.1+(1:Int))),(a.2++[g])) (P) h SF (aY.ix [1,2,3,4,5,6] Z Z) (aF.refl _ _)
  refine fS ?_;exact cV (a.2) (f) h SF (aY.ix [0,1,2,3,5] Z Z) (aF.refl _ _)
 intro p o h;unfold mZ at h;refine aT<|dW 0 Z<|bX (Know.one ((bG (aE.res 4 Z) eG))) λF=>bX (Know.one (aE.sl (bT (i:=1) (j:=2) Z Z bQ))) λG=>bN 3 (vs:=[o,n]) Z Z (jK F (jK G Z)) Z Z Z<|aM<|aS ?_;cases h;exact gJ (o,n,(List.replicate (Int.toNat (wI .i64 ((1:Int)+b))) (kE))) Z Z (RV.cell 3 Z Z Z Z) (aY.ix [4,1,2] Z Z) aF.nil
def nO (b:(aP×eY)) (a:eY):Option rU:=
 some ((b.1,a))
def rW (U:Nat) (b:Cu) (i:(aP×eY)) (a:Int×eY) (c:(Int×eY)->Option rU):Option rU:=
 if a.1<(List.length a.2:Int)then(Option.bind (qU U b.2.1 (wI .i64 (a.1 - (1:Int)))) λd=>(Option.bind (gE U d a.1) λe=>(Option.bind (qU U b.2.2.1 (wI .i64 (a.1 - (1:Int)))) λf=>(Option.bind (gE U f (15:Int)) λg=>(Option.bind (lW U ((b.1,b.2.1,b.2.2.1,b.2.2.2.1,b.2.2.2.2.1,b.2.2.2.2.2)) ((i.1,a.2)) e a.1 (wI .i64 ((1:Int)+g))) λh=>(c ((wI .i64 (a.1+(1:Int))),h)))))))else(nO i (a.2))
def lV (U:Nat) (a:Cu) (c:Int):Option rU:=
 Option.bind (nV U ((a.1,a.2.1,a.2.2.1,a.2.2.2.1,a.2.2.2.2.1,a.2.2.2.2.2)) c) λb=>(bL (rW U a b) U ((1:Int),b.2))
theorem UB:aR Tryz.prog 26:=Tryz.call26
theorem Af (U:Nat) {p0:Cu} {p1:Int} (g:Value)  (k:Value)  (n:Value) (r:(aP×eY)) (h:lV U p0 p1=some r):
  aV Tryz.prog 26 #[Value.agg #[vI (p0.1),g,k,n,vB (p0.2.2.2.2.1),vB (p0.2.2.2.2.2)],vI (p1)] [Sl bM g p0.2.1,Sl bM k p0.2.2.1,Sl bM n p0.2.2.2.1] (λx:Value×Value×List Value=>Value.agg #[x.1,x.2.1]) (λx l=>Ar cD x.1 r.1::Ar cT.raw x.2.1 x.2.2::kF bZ x.2.2 r.2::l) (λ_ l=>l):=by
 refine aV.of Tryz.func26 Z Tryz.ntmps26 Z λc=>?_;refine aT<|aG (aL.box (cs:=[vI (p0.1),g,k,n,vB (p0.2.2.2.2.1),vB (p0.2.2.2.2.2)]) Z Z) Z λu=>aG (aL.alloc (cs:=[kE,kE]) Z Z) Z λo=>aM<|aT<|dW 1 Z<|aA Z<|eZ h λm P h=>aG (aL.callQ aaD (DR U g k n m P) Z (nK [0,1,2] Z)) Z λa=>aG (aL.alloc (cs:=[kE,kE]) Z Z) Z λp=>bX (Know.one ((bG (aE.res 1 Z) eG))) λv=>bX (Know.one (aE.sl (bT (i:=2) (j:=3) Z Z bQ))) λw=>bN 0 (vs:=[a.1,a.2.1]) Z Z (jK v (jK w Z)) Z Z Z<|aM<|aJ<|Cr (B:=eW) (λe=>nO m e=some r) (λe f=>[(4,vP o),(5,vP p)]) (λe f=>[bV p [a.1,a.2.1] 29,Ar cD a.1 m.1,Ar cT.raw a.2.1 f,kF bZ f e,bV o [kE,kE] 29]) ?_ ?_
 ·refine aT<|aD Z<|aM<|aU<|fD (B:=eW) (rW U p0 m) (λd b=>[(2,vP u),(4,vP o),(5,vP p),(6,vI (d.1))]) (λd b=>[bV p [a.1,a.2.1] 29,Ar cD a.1 m.1,Ar cT.raw a.2.1 b,kF bZ b d.2,bV o [kE,kE] 29,bV u [vI (p0.1),g,k,n,vB (p0.2.2.2.2.1),vB (p0.2.2.2.2.2)] 24]) ((1:Int),m.2) (a.2.2) h SF (aY.refl _) ?_;intro O d b h;refine aJ<|aT<|aA Z<|bU Z<|dL 0 Z<|aC (iX Z (bT (i:=2) (j:=3) Z Z bQ) Z) Z<|dA Z<|aM ?_;refine fE h Z (λh=>?_) λh=>?_
  ·refine cU<|aJ<|aU ?_;refine JR.start [0,0,0,4,0,16,60,0,252,0,0,1024,0,4096,15868,32252,65020,131071] 17 mixedOrders (by decide +kernel) ?_;refine JR.open (by exact rfl) ?_;refine kS 5 Z<|kS 0 Z<|cR Z<|gY 5 Z<|bH Z<|iD Z (pX Z Z)<|eZ h λy E h=>JR.loud Z Z Z (aL.callQ Ih (Al U g y E) Z (nK [0] Z)) Z (λJ=>(rY [([0],[]),([5],[])] Z)) λJ=>iD Z (iY Z)<|eZ h λA F h=>JR.loud Z Z Z (aL.callQ CG (kM U  A F) Z .nil) Z (λK=>(rY [([0],[]),([5],[])] Z)) λK=>iD Z (iY Z)<|iD Z (eQ Z Z Z Z Z)<|bJ Z (aY.cons 5 Z .nil) .nil (fV 0 Z Z Z Z Z) (aO.h (aY.ix [5] Z Z) .nil (aO.h (aY.ix [5] Z Z) .nil aO.z))<|iD Z (iY Z)<|iD Z (pX Z Z)<|eZ h λC G h=>JR.loud Z Z Z (aL.callQ Ih (Al U k C G) Z (nK [1] Z)) Z (λL=>(rY [([0],[]),([5],[])] Z)) λL=>eZ h λD H h=>JR.loud Z Z Z (aL.callQ CG (kM U  D H) Z .nil) Z (λM=>(rY [([0],[]),([5],[])] Z)) λM=>iD Z (xY Z Z)<|bR 17 Z Z<|eZ h λt I h=>aG (Ej (Min:=[Ar cT.raw a.2.1 b,kF bZ b d.2]) (Mr:=[bV p [a.1,a.2.1] 29,Ar cD a.1 m.1,bV o [kE,kE] 29,bV u [vI (p0.1),g,k,n,vB (p0.2.2.2.2.1),vB (p0.2.2.2.2.2)] 24]) UE (Ag U g k n a.1 a.2.1 b t I) Z (aY.ix [2,3,0,1,4,5] Z Z) (aF.cons (aE.fact 0 Z) (aF.cons (aE.fact 1 Z) (aF.cons (aE.fact 2 Z) (aF.cons (bG (aE.res 1 Z) eG) .nil)))) (λ_ _=>rfl)) Z λN=>eN<|oM<|aQ<|aA Z<|cQ Z<|aD Z<|aM ?_;exact lM ((wI .i64 (d.1+(1:Int))),t) (N) h SF (aY.ix [2,3,0,1,4,5] Z Z) (aF.refl _ _)
  refine fS ?_;exact cV (d.2) (b) h SF (aY.ix [0,1,2,3,4] Z Z) (aF.refl _ _)
 intro e f h;unfold nO at h;refine aT<|dW 0 Z<|bX (Know.one ((bG (aE.res 1 Z) eG))) λq=>bX (Know.one (aE.sl (bT (i:=2) (j:=3) Z Z bQ))) λs=>bN 4 (vs:=[a.1,a.2.1]) Z Z (jK q (jK s Z)) Z Z Z<|aM<|aS ?_;cases h;exact gJ (a.1,a.2.1,f) Z Z (RV.cell 4 Z Z Z Z) (aY.ix [1,2,3] Z Z) aF.nil
def iZ (U:Nat) (a:Int):Option (Int):=
 if a=(0:Int)then(some (32:Int))else(ck (0<=(27:Int)) (ck ((0<=(tV .u32 (wI .u32 ((dV .u32 a (wI .u32 (0 - a)))*(125613361:Int))) (27:Int))∧(tV .u32 (wI .u32 ((dV .u32 a (wI .u32 (0 - a)))*(125613361:Int))) (27:Int))<((32:Nat):Int))∧List.length sU=32) (some (wI .i64 (at' sU (tV .u32 (wI .u32 ((dV .u32 a (wI .u32 (0 - a)))*(125613361:Int))) (27:Int)))))))
theorem QE:aR Tryz.prog 150:=Tryz.call150
theorem wA (U:Nat) {b:Int} (r:Int) (h:iZ U b=some r):
  aV Tryz.prog 150 #[vU (b)] [Gb 0 (cellsOf EI sU)] (λx:Unit=>vI (r)) (λx l=>l) (λ_ l=>l):=by
 refine aV.of Tryz.func150 Z Tryz.ntmps150 Z λc=>?_;refine aT<|aD Z<|aM<|aJ<|aT<|aA Z<|cJ Z<|aM ?_;refine fE h Z (λh=>?_) λh=>?_
 ·refine aT<|aD Z<|aM<|aS<|aI ?_;cases h;exact kW Z
 refine cU<|aT<|aA Z<|aA Z<|aC (Qo Z) Z<|yM Z<|aC (AJ Z Z) Z<|dO h λd h=>aC (JS Z Z d) Z<|dO h λa h=>aC (MJ Z Z Z Z Z a.1) Z<|aC (Sq (e:=EI) Z (aE.fact 0 Z) Z Z Z Z a) Z<|aC (OT Z Z Z) Z<|aD Z<|aM<|aS ?_;cases h;exact kW Z
def iR  (a:Unit):Option (Bool):=
 some (true)
def fN (U:Nat) (d:aP) (e:Int) (a:Int) (c:(Int)->Option (Bool)):Option (Bool):=
 if a≠(0:Int)then(Option.bind (iZ U a) λb=>(ck (0<=b∧b<(List.length d:Int)) (if(dV .u32 (at' d b) e)≠(0:Int)then(some (false))else(c (dV .u32 a (wI .u32 (a - (1:Int))))))))else(iR  (()))
def lB (U:Nat) (c:aP) (a:Int) (b:Unit):Option (Bool):=
 bL (fN U c a) U (a)
def gC (U:Nat) (a:aP) (b:Int):Option (Bool):=
 lB U a b (())
theorem Yb:aR Tryz.prog 144:=Tryz.call144
theorem Ae (U:Nat) {m:aP} {e:Int} (j:Value) (r:Bool) (h:gC U m e=some r):
  aV Tryz.prog 144 #[j,vU (e)] [Sl wF j m,Gb 0 (cellsOf EI sU)] (λx:Unit=>vB (r)) (λx l=>l) (λ_ l=>l):=by
 refine aV.of Tryz.func144 Z Tryz.ntmps144 Z λc=>?_;unfold gC at h;refine iW MD<|aT<|bX (Know.one ((aE.fact 0 Z))) λw=>?_;refine aG (aL.box (cs:=[j]) Z (by rw[eR w])) Z λC=>?_;refine aG (aL.box (cs:=[vU (e)]) Z Z) Z λD=>aG (aL.alloc (cs:=[vB (false)]) Z Z) Z λu=>aM<|aJ<|OF (A:=Unit) (B:=oY) (λk g=>⟨16,IP g⟩) (λk=>iR  k=some r) (λk g=>[(4,vP u)]) (λk g=>[bV u [vB (false)] 4,KL g]) (λk g=>[Sl wF j m,Gb 0 (cellsOf EI sU)]) ?_ ?_
 ·refine aT<|dL 1 Z<|zJ (A:=Unit) (B:=Nat) (vs:=[vU (e)]) (λb=>lB U m e b=some r) (λb a=>Value.func (.func 149) #[] #[vP a]) (λb a=>[bV a [vU (e)] 25,bV u [vB (false)] 4,bV D [vU (e)] 25,bV C [j] 94,KL ([]:oY)]) (λb a=>[Sl wF j m,Gb 0 (cellsOf EI sU)]) (qG.fn (show aR Tryz.prog 115 from Tryz.call115) Z) Tryz.func115 Z Tryz.ntmps115 Z Z ?_ ?_
  ·refine aT<|aG (aL.box (cs:=[vU (e)]) Z Z) Z λo=>aD Z<|aM<|aT<|aC (wP (cs:=[.tmp 1]) (vs:=[vP o]) Z) Z<|aD Z<|aM<|aS ?_;exact qJ () (o) h (.inl Z) (EP.r1 Z (RV.tmp Z)) Z (aY.refl _) (aF.refl _ _)
  intro b a h;unfold lB at h;refine aM<|aU<|EK (i:=4) (cs:=[vP a]) ([]:oY) Z (show aR Tryz.prog 149 from Tryz.call149) Z Tryz.func149 Z Tryz.ntmps149 Z λs f v p=>aU<|fD (fN U m e) (λd n=>[(0,wE s),(1,vP a)]) (λd n=>[Lp s v LoopState.ready none,bV a [vU (d)] 25,bV u [vB (false)] 4,bV D [vU (e)] 25,bV C [j] 94,KL (List.cons f ([]:oY))]) (e) () h SF (aY.refl _) ?_;intro E d n h;refine aJ<|aT<|dL 1 Z<|qD Z<|aM ?_;refine fE h Z (λh=>?_) λh=>?_
  ·refine cU<|aJ<|aU<|aT<|aA Z<|dL 1 Z<|eZ h λt y h=>aG (aL.callQ QE (wA U  t y) Z (nK [1] Z)) Z λF=>Mk (us:=[vI (t)]) (i:=0) p Z Z Z Z Z Z<|aQ<|aD Z<|aM<|Qi (i:=0) Z<|aU<|aJ ?_;refine JR.start [0,0,3,7,0,31,63] 5 mixedOrders (by decide +kernel) ?_;refine JR.open (by exact rfl) ?_;refine gY 4 Z<|bH Z<|dO h λq h=>bJ Z .nil (mE 0 Z) (bE Z Z (aE.fact 0 Z) Z Z q) aO.z<|bJ Z .nil (mE 0 Z) (b_ Z (aE.fact 0 Z) Z Z Z FW q) aO.z<|gY 3 Z<|bR 5 Z Z<|yM Z<|qD Z<|aM ?_;refine fE h Z (λh=>?_) λh=>?_
   ·refine aT<|fX 2 Z Z Z Z Z Z<|aM<|aS<|bO<|TW (i:=0) Z<|aC (sK Z) Z<|aM<|Qj Z<|aS<|bO<|aI<|aI<|bO<|Xx (i:=0) (.inl Z) Z (EP.r0 Z)<|bO<|aI<|qK (i:=5) (Ds:=(List.cons f ([]:oY))) (.inl Z) Z ?_;cases h;exact gJ () Z Z (Mw 2 Z Z Z Z) .nil aF.nil
   refine dX<|TR<|HO (i:=0) Z<|aC (sK Z) Z<|aM<|Ho Z<|dX<|oM<|aQ<|dL 1 Z<|dL 1 Z<|aC (pX Z Z) Z<|yM Z<|fX 1 Z Z Z Z Z Z<|aM ?_;exact AK (dV .u32 d (wI .u32 (d - (1:Int)))) () h SF Z
  refine uV<|gK<|gK<|Av<|TV (i:=0) (.inr Z) Z (EP.r0 Z)<|oM ?_;exact Hp () (List.cons f ([]:oY)) Z h SF (aY.ix [2,5] Z Z) (aF.refl _ _)
 intro k g h;unfold iR at h;refine aT<|fX 0 Z Z Z Z Z Z<|aM<|aS<|qK (i:=1) (Ds:=(g)) (.inl Z) Z ?_;cases h;exact gJ () Z Z (Mw 0 Z Z Z Z) .nil aF.nil
def kQ (U:Nat) (d:aP) (b:Int) (e:Int) (a:Int) (c:Bool):Option (Bool):=
 if c=true then(some (false))else(if b=(1:Int)then(some (decide ((dV .u32 a (wI .u32 (a - (1:Int))))=(0:Int))))else(if b=(2:Int)then(Option.bind (gC U d a) λf=>(some (f)))else(if b=(4:Int)then(some (decide (a=e)))else(some (true)))))
def fC (U:Nat) (c:aP) (d:Int) (b:Int) (a:Int):Option (Bool):=
 if a=(0:Int)then(kQ U c d b a (true))else(kQ U c d b a (decide ((yV .u32 a b)≠(0:Int))))
theorem QA:aR Tryz.prog 112:=Tryz.call112
theorem vZ (U:Nat) {p0:aP} {p1:Int} {p2:Int} {p3:Int} (b:Value) (r:Bool) (h:fC U p0 p1 p2 p3=some r):
  aV Tryz.prog 112 #[b,vI (p1),vU (p2),vU (p3)] [Sl wF b p0,Gb 0 (cellsOf EI sU)] (λx:Unit=>vB (r)) (λx l=>l) (λ_ l=>l):=by
 refine aV.of Tryz.func112 Z Tryz.ntmps112 Z λc=>?_;refine aT<|aD Z<|aM<|aJ<|aJ<|fU (λa=>kQ U p0 p1 p2 p3 a=some r) (λa d=>[(0,b),(1,vI (p1)),(2,vU (p2)),(3,vU (p3)),(16,vB (a))]) (λa d=>[]) ?_ ?_
 ·refine aQ<|aA Z<|cJ Z<|aA Z ?_;refine Es h Z (λ_ h=>?_) λ_ h=>?_
  ·refine aN Z<|aN Z<|aN Z<|aN Z<|fF Z<|aM ?_;exact jL (true) () h SF Z
  refine e_ Z<|e_ Z<|aX Z (HZ Z Z) Z<|aX Z (EW Z Z) Z<|iP Z<|aM ?_;exact jL (decide ((yV .u32 p3 p2)≠(0:Int))) () h SF Z
 intro a d h;refine A_ h Z (λ_ h=>?_) λ_ h=>?_
 ·refine aT<|aD Z<|aM<|aS<|aI ?_;cases h;exact kW Z
 refine cU<|aJ<|aT<|aA Z<|aM<|aU<|aT<|cJ Z<|aD Z<|aM ?_;refine fE h Z (λh=>?_) λh=>?_
 ·refine aT<|aA Z<|aA Z<|aC (pX Z Z) Z<|yM Z<|cJ Z<|aD Z<|aM<|aS<|bO<|aI ?_;cases h;exact kW Z
 refine aT<|cJ Z<|aD Z<|aM ?_;refine fE h Z (λh=>?_) λh=>?_
 ·refine aT<|aA Z<|aA Z<|eZ h λe f h=>aG (aL.callQ Yb (Ae U b e f) Z (nK [0,1] Z)) Z λg=>aD Z<|aM<|aS<|bO<|aI ?_;cases h;exact kW Z
 refine aT<|cJ Z<|aD Z<|aM ?_;refine fE h Z (λh=>?_) λh=>?_
 ·refine aT<|aA Z<|aA Z<|cJ Z<|aD Z<|aM<|aS<|bO<|aI ?_;cases h;exact kW Z
 refine dX<|oM<|aT<|aD Z<|aM<|aS ?_;cases h;exact kW Z
def kR  (a:Int):Option (Int):=
 some (a)
def iG (a:fG) (b:iQ->Option (Int)) (c:Int):Option (Int):=
 b ((dV .u32 a.1 (wI .u32 (a.1 - (1:Int)))),c)
def dR (U:Nat) (d:aP) (a:fG) (c:iQ->Option (Int)):Option (Int):=
 if a.1≠(0:Int)then(Option.bind (iZ U a.1) λb=>(ck (0<=b∧b<(List.length d:Int)) (if(dV .u32 (at' d b) a.2)=(0:Int)then(ck (0<=b) (iG a c (Lb .u32 a.2 (Bv .u32 (1:Int) b))))else(iG a c (a.2)))))else(kR  (a.2))
def oD (U:Nat) (c:aP) (b:Int) (a:Unit):Option (Int):=
 bL (dR U c) U (b,(0:Int))
def iF (U:Nat) (c:aP) (b:Int) (d:Int) (a:Int):Option (Int):=
 if b=(1:Int)then(some (dV .u32 a (wI .u32 (0 - a))))else(if b=(2:Int)then(oD U c a (()))else(if b=(4:Int)then(some (d))else(some (a))))
def eD (U:Nat) (b:aP) (c:Int) (a:Int) (d:Int):Option (Int):=
 if(dV .u32 d a)=(0:Int)then(iF U b c a (dV .u32 a (wI .u32 (0 - a))))else(iF U b c a (dV .u32 d a))
theorem UI:aR Tryz.prog 83:=Tryz.call83
theorem v_ (U:Nat) {p0:aP} {p1:Int} {p2:Int} {p3:Int} (k:Value) (r:Int) (h:eD U p0 p1 p2 p3=some r):
  aV Tryz.prog 83 #[k,vI (p1),vU (p2),vU (p3)] [Sl wF k p0,Gb 0 (cellsOf EI sU)] (λx:Unit=>vU (r)) (λx l=>l) (λ_ l=>l):=by
 refine aV.of Tryz.func83 Z Tryz.ntmps83 Z λc=>?_;refine iW MD<|aT<|bX (Know.one ((aE.fact 0 Z))) λD=>?_;refine aG (aL.box (cs:=[k]) Z (by rw[eR D])) Z λq=>?_;refine aD Z<|aM<|aT<|aA Z<|aA Z<|yM Z<|aD Z<|aM<|aJ<|OF (A:=Int) (B:=Unit) (λg C=>⟨48,IP ([]:oY)⟩) (λg=>iF U p0 p1 p2 g=some r) (λg C=>[(1,vI (p1)),(2,vU (p2)),(3,vU (g)),(4,vP q),(8,vU (0:Int))]) (λg C=>[bV q [k] 94,KL ([]:oY)]) (λg C=>[Sl wF k p0,Gb 0 (cellsOf EI sU)]) ?_ ?_
 ·refine aT<|aA Z<|cJ Z<|aM ?_;refine fE h Z (λh=>?_) λh=>?_
  ·refine aQ<|aA Z<|aA Z<|aC (Qo Z) Z<|yM Z<|aD Z<|aM ?_;exact Hp (dV .u32 p2 (wI .u32 (0 - p2))) () Z h SF (aY.refl _) (aF.refl _ _)
  refine cU ?_;exact Hp (dV .u32 p3 p2) () Z h SF (aY.refl _) (aF.refl _ _)
 intro g C h;refine aJ<|aT<|aA Z<|aM<|aU<|aT<|cJ Z<|aD Z<|aM ?_;refine fE h Z (λh=>?_) λh=>?_
 ·refine aT<|aA Z<|aA Z<|aC (Qo Z) Z<|yM Z<|aD Z<|aM<|aS<|bO<|aI<|qK (i:=1) (Ds:=([]:oY)) (.inl Z) Z ?_;cases h;exact uU Z
 refine aT<|cJ Z<|aD Z<|aM ?_;refine fE h Z (λh=>?_) λh=>?_
 ·refine aT<|aG (aL.alloc (cs:=[vU (0:Int)]) Z Z) Z λv=>fX 0 Z Z Z Z Z Z<|aM<|aJ<|OF (A:=Int) (B:=oY) (λd e=>⟨48,IP e⟩) (λd=>kR  d=some r) (λd e=>[(9,vP v)]) (λd e=>[bV v [vU (d)] 25,KL e]) (λd e=>[Sl wF k p0,Gb 0 (cellsOf EI sU)]) ?_ ?_
  ·refine aT<|aA Z<|zJ (A:=Unit) (B:=Nat) (vs:=[vU (g)]) (λj=>oD U p0 g j=some r) (λj b=>Value.func (.func 149) #[] #[vP b]) (λj b=>[bV b [vU (g)] 25,bV v [vU (0:Int)] 25,bV q [k] 94,KL ([]:oY)]) (λj b=>[Sl wF k p0,Gb 0 (cellsOf EI sU)]) (qG.fn (show aR Tryz.prog 115 from Tryz.call115) Z) Tryz.func115 Z Tryz.ntmps115 Z Z ?_ ?_
   ·refine aT<|aG (aL.box (cs:=[vU (g)]) Z Z) Z λu=>aD Z<|aM<|aT<|aC (wP (cs:=[.tmp 1]) (vs:=[vP u]) Z) Z<|aD Z<|aM<|aS ?_;exact qJ () (u) h (.inl Z) (EP.r1 Z (RV.tmp Z)) Z (aY.refl _) (aF.refl _ _)
   intro j b h;unfold oD at h;refine aM<|aU<|EK (i:=3) (cs:=[vP b]) ([]:oY) Z (show aR Tryz.prog 149 from Tryz.call149) Z Tryz.func149 Z Tryz.ntmps149 Z λm n p w=>aU<|fD (dR U p0) (λa s=>[(0,wE m),(1,vP b)]) (λa s=>[Lp m p LoopState.ready none,bV b [vU (a.1)] 25,bV v [vU (a.2)] 25,bV q [k] 94,KL (List.cons n ([]:oY))]) (g,(0:Int)) () h SF (aY.refl _) ?_;intro F a s h;refine aJ<|aT<|dL 1 Z<|qD Z<|aM ?_;refine fE h Z (λh=>?_) λh=>?_
   ·refine cU<|aJ<|fU (λf=>iG a (bL (dR U p0) F) f=some r) (λf t=>[(0,wE m),(1,vP b)]) (λf t=>[Lp m p LoopState.ready none,bV b [vU (a.1)] 25,bV v [vU (f)] 25,bV q [k] 94,KL (List.cons n ([]:oY))]) ?_ ?_
    ·refine aU<|aT<|aA Z<|dL 1 Z<|eZ h λo G h=>aG (aL.callQ QE (wA U  o G) Z (nK [1] Z)) Z λH=>Mk (us:=[vI (o)]) (i:=0) w Z Z Z Z Z Z<|aQ<|aD Z<|aM<|Qi (i:=0) Z<|aU<|aJ ?_;refine JR.start [0,0,3,7,0,31,63] 5 mixedOrders (by decide +kernel) ?_;refine JR.open (by exact rfl) ?_;refine gY 3 Z<|bH Z<|dO h λy h=>bJ Z .nil (mE 0 Z) (bE Z Z (aE.fact 0 Z) Z Z y) aO.z<|bJ Z .nil (mE 0 Z) (b_ Z (aE.fact 0 Z) Z Z Z FW y) aO.z<|gY 2 Z<|bR 5 Z Z<|yM Z<|cJ Z<|aM ?_;refine fE h Z (λh=>?_) λh=>?_
     ·refine JR.start [0,0,2,7,15] 3 mixedOrders (by decide +kernel) ?_;refine JR.open (by exact rfl) ?_;refine gY 2 Z<|bH Z<|dO h λE h=>iD Z (MN Z Z E)<|bR 3 Z Z<|aC (XI Z Z) Z<|fX 2 Z Z Z Z Z Z<|eN<|TR<|HO (i:=0) Z<|aC (sK Z) Z<|aM<|Ho Z<|dX<|oM ?_;exact jL (Lb .u32 a.2 (Bv .u32 (1:Int) o)) () h SF Z
     refine dX<|TR<|HO (i:=0) Z<|aC (sK Z) Z<|aM<|Ho Z<|dX<|oM ?_;exact jL (a.2) () h SF Z
    intro f t h;unfold iG at h;refine aQ<|dL 1 Z<|dL 1 Z<|aC (pX Z Z) Z<|yM Z<|fX 1 Z Z Z Z Z Z<|aM ?_;exact AK ((dV .u32 a.1 (wI .u32 (a.1 - (1:Int)))),f) () h SF Z
   refine uV<|gK<|gK<|Av<|TV (i:=0) (.inr Z) Z (EP.r0 Z)<|oM ?_;exact Hp (a.2) (List.cons n ([]:oY)) Z h SF (aY.ix [2,4] Z Z) (aF.refl _ _)
  intro d e h;unfold kR at h;refine aT<|dL 0 Z<|aD Z<|aM<|aS<|bO<|aI<|qK (i:=1) (Ds:=(e)) (.inl Z) Z ?_;cases h;exact uU Z
 refine aT<|cJ Z<|aD Z<|aM ?_;refine fE h Z (λh=>?_) λh=>?_
 ·refine aT<|aA Z<|aD Z<|aM<|aS<|bO<|aI<|qK (i:=1) (Ds:=([]:oY)) (.inl Z) Z ?_;cases h;exact uU Z
 refine dX<|oM<|aT<|aA Z<|aD Z<|aM<|aS<|qK (i:=1) (Ds:=([]:oY)) (.inl Z) Z ?_;cases h;exact uU Z
def tB  (a:aP):Option aP:=
 some (a)
def pL (c:Int×aP×aP) (b:(Int×aP×aP)->Option aP) (a:aP×aP):Option aP:=
 b ((wI .i64 (c.1+(1:Int))),a.1,a.2)
def pM (c:cE) (b:aP×aP) (e:(aP×aP)->Option aP) (a:Int×aP×aP) (d:(Int×aP×aP)->Option aP):Option aP:=
 if a.1<(List.length (at' c.2 (at' b.1 (0:Int))):Int)then(ck (0<=a.1∧a.1<(List.length (at' c.2 (at' b.1 (0:Int))):Int)) (ck (0<=((at' (at' c.2 (at' b.1 (0:Int))) a.1).1)∧((at' (at' c.2 (at' b.1 (0:Int))) a.1).1)<(List.length a.2.2:Int)) (if(at' a.2.2 ((at' (at' c.2 (at' b.1 (0:Int))) a.1).1))<(0:Int)then(ck (0<=(at' b.1 (0:Int))∧(at' b.1 (0:Int))<(List.length a.2.2:Int)) (ck (0<=((at' (at' c.2 (at' b.1 (0:Int))) a.1).1)∧((at' (at' c.2 (at' b.1 (0:Int))) a.1).1)<(List.length a.2.2:Int)) (ck ((List.length a.2.1:Int)+(List.length ([((at' (at' c.2 (at' b.1 (0:Int))) a.1).1)]):Int)<=1099511627) (pL a d ((a.2.1++([((at' (at' c.2 (at' b.1 (0:Int))) a.1).1)])),(List.set a.2.2 (Int.toNat ((at' (at' c.2 (at' b.1 (0:Int))) a.1).1)) (wI .i64 ((at' a.2.2 (at' b.1 (0:Int)))+(1:Int)))))))))else(pL a d (a.2.1,a.2.2)))))else(e (a.2.1,a.2.2))
def mR (U:Nat) (c:cE) (a:aP×aP) (b:(aP×aP)->Option aP):Option aP:=
 if(0:Int)<(List.length a.1:Int)then(ck (0<=(0:Int)∧(0:Int)<(List.length a.1:Int)) (ck (0<=(1:Int)∧(1:Int)<=(List.length a.1:Int)) (ck (0<=(at' a.1 (0:Int))∧(at' a.1 (0:Int))<(List.length c.2:Int)) (bL (pM c a b) U ((0:Int),(List.drop (Int.toNat (1:Int)) a.1),a.2)))))else(tB  (a.2))
def x_ (U:Nat) (c:cE) (a:Int) (b:aP):Option aP:=
 ck (0<=a∧a<(List.length b:Int)) (bL (mR U c) U (([a]),(List.set b (Int.toNat a) (0:Int))))
def yA (U:Nat) (c:cE) (d:Int) (a:mN) (b:wD->Option aP):Option aP:=
 if a.1<(List.length (List.replicate (Int.toNat (List.length c.2:Int)) (0:Int)):Int)then(ck (0<=a.1∧a.1<(List.length a.2:Int)) (b ((wI .i64 (a.1+(1:Int))),(List.set a.2 (Int.toNat a.1) (-1:Int)))))else(x_ U c d (a.2))
def jA (U:Nat) (a:cE) (b:Int):Option aP:=
 ck (0<=(List.length a.2:Int)∧(List.length a.2:Int)<=1099511627) (bL (yA U a b) U ((0:Int),(List.replicate (Int.toNat (List.length a.2:Int)) (0:Int))))
theorem Pe:aR Tryz.prog 63:=Tryz.call63
theorem Ak (U:Nat) {d:cE} {o:Int} (s:Value)  (t:Value)  (M:lA) (r:aP) (h:jA U d o=some r):
  aV Tryz.prog 63 #[Value.agg #[s,t],vI (o)] [Sl bM s d.1,S2 a_ t M d.2] (λx:Value=>x) (λx l=>Ar cD x r::l) (λ_ l=>l):=by
 refine aV.of Tryz.func63 Z Tryz.ntmps63 Z λc=>?_;refine aT<|aG (aL.box (cs:=[s,t]) Z Z) Z λp=>aD Z<|aM<|aT<|bU Z<|dL 0 Z<|aC (iX Z (aE.fact 1 Z) Z) Z<|dO h λQ h=>aG (pC (e:=cD) (0:Int) Z Z Z Z Q Z Z Z) Z λk=>aD Z<|aM<|aJ<|fU (λu=>x_ U d o u=some r) (λu N=>[(1,vI (o)),(2,vP p),(5,k)]) (λu N=>[Ar cD k u,bV p [s,t] 29]) ?_ ?_
 ·refine aT<|aA Z<|aC (iU Z (bG (aE.res 0 Z) eG) Z) Z<|aA Z<|aM<|aU<|fD (yA U d o) (λg w=>[(1,vI (o)),(2,vP p),(5,k),(16,vI (List.length (List.replicate (Int.toNat (List.length d.2:Int)) (0:Int)):Int)),(17,vI (g.1))]) (λg w=>[Ar cD k g.2,bV p [s,t] 29]) ((0:Int),(List.replicate (Int.toNat (List.length d.2:Int)) (0:Int))) () h SF (aY.refl _) ?_;intro R g w h;refine aT<|dA Z<|aM<|aJ ?_;refine fE h Z (λh=>?_) λh=>?_
  ·refine cU<|aJ<|aU<|aT<|aA Z<|aD Z<|aM<|aQ<|aA Z<|aA Z<|dO h λF h=>aC (bE Z Z (bG (aE.res 0 Z) eG) Z Z F) Z<|Cv 0 (-1:Int) F Z Z Z Z Z Z Z<|eN<|oM<|aQ<|cQ Z<|aA Z<|aM ?_;exact AK ((wI .i64 (g.1+(1:Int))),(List.set g.2 (Int.toNat g.1) (-1:Int))) () h SF Z
  refine fS ?_;exact jL (g.2) () h SF Z
 intro u N h;refine aT<|aA Z<|aA Z<|dO h λO h=>aC (bE Z Z (bG (aE.res 0 Z) eG) Z Z O) Z<|Cv 0 (0:Int) O Z Z Z Z Z Z Z<|aM<|aT<|aA Z<|aG (bW (e:=cD) ([o]) [(0,vI (o))] Z Z Z Z (lQ (vI (o)) Z) Z Z Z) Z λT=>aD Z<|aM<|aJ<|fU (λm=>tB  m=some r) (λm v=>[(5,k)]) (λm v=>[Ar cD k m]) ?_ ?_
 ·refine aU<|fD (B:=Value) (mR U d) (λa q=>[(2,vP p),(5,k),(7,q)]) (λa q=>[Ar cD q a.1,Ar cD k a.2,bV p [s,t] 29]) (([o]),(List.set u (Int.toNat o) (0:Int))) (T) h SF (aY.refl _) ?_;intro G a q h;refine aJ<|aT<|aA Z<|aC (iU Z (bG (aE.res 0 Z) eG) Z) Z<|aC (xP Z Z) Z<|aM ?_;refine fE h Z (λh=>?_) λh=>?_
  ·refine cU<|aU<|aT<|aA Z<|dO h λy h=>aC (bE Z Z (bG (aE.res 0 Z) eG) Z Z y) Z<|aC (b_ Z (bG (aE.res 0 Z) eG) Z Z Z dU y) Z<|aD Z<|aM<|aT<|aA Z<|dO h λH h=>aG (Mm 0 H Z Z Z Z Z Z) Z λK=>aD Z<|aM<|aT<|bU Z<|dL 2 Z<|aA Z<|dO h λi h=>aC (c_ Z Z (aE.fact 1 Z) Z Z i) Z<|aC (dB Z (aE.fact 1 Z) Z Z i) Z<|aC (iU Z (aE.el (aE.fact 1 Z) i.1 i.2) Z) Z<|aA Z<|aM<|aU<|fD (B:=Value) (pM d a (bL (mR U d) G)) (λb j=>[(2,vP p),(5,k),(7,j),(8,vI (at' a.1 (0:Int))),(41,(at' M (at' a.1 (0:Int))).1),(42,vI (List.length (at' d.2 (at' a.1 (0:Int))):Int)),(43,vI (b.1))]) (λb j=>[Ar cD j b.2.1,Ar cD k b.2.2,bV p [s,t] 29]) ((0:Int),(List.drop (Int.toNat (1:Int)) a.1),a.2) (K) h SF (aY.refl _) ?_;intro J b j h;refine aT<|dA Z<|aM<|aJ ?_;refine fE h Z (λh=>?_) λh=>?_
   ·refine cU<|aJ<|Cr (B:=Value) (λf=>pL b (bL (pM d a (bL (mR U d) G)) J) f=some r) (λf n=>[(2,vP p),(5,k),(7,n),(8,vI (at' a.1 (0:Int))),(41,(at' M (at' a.1 (0:Int))).1),(42,vI (List.length (at' d.2 (at' a.1 (0:Int))):Int)),(43,vI (b.1))]) (λf n=>[Ar cD n f.1,Ar cD k f.2,bV p [s,t] 29]) ?_ ?_
    ·refine aU<|aT<|dO h λA h=>aC (bE Z Z (aE.el (aE.fact 1 Z) i.1 i.2) Z Z A) Z<|aC (h_ (cs:=[vI ((at' (at' d.2 (at' a.1 (0:Int))) b.1).1),vI ((at' (at' d.2 (at' a.1 (0:Int))) b.1).2)]) Z (aE.el (aE.fact 1 Z) i.1 i.2) bQ Z Z Z Z A) Z<|aG (aL.alloc (cs:=Tz) Z Z) Z λP=>bN 0 (vs:=[vI ((at' (at' d.2 (at' a.1 (0:Int))) b.1).1),vI ((at' (at' d.2 (at' a.1 (0:Int))) b.1).2)]) Z Z Z Z Z Z<|aM<|aT<|aA Z<|bU Z<|dL 0 Z<|dO h λC h=>aC (bE Z Z (bG (aE.res 2 Z) eG) Z Z C) Z<|aC (b_ Z (bG (aE.res 2 Z) eG) Z Z Z dU C) Z<|dA Z<|aM ?_;refine fE h Z (λh=>?_) λh=>?_
     ·refine aJ ?_;refine JR.start [0,0,2,0,0,24,56,120,255,511] 8 mixedOrders (by decide +kernel) ?_;refine JR.open (by exact rfl) ?_;refine bH Z<|cR Z<|gY 0 Z<|bH Z<|bH Z<|dO h λD h=>bJ Z (aY.cons 2 Z .nil) .nil (bE Z Z (bG (aE.res 0 Z) eG) Z Z D) aO.z<|bJ Z (aY.cons 2 Z .nil) .nil (b_ Z (bG (aE.res 0 Z) eG) Z Z Z dU D) aO.z<|iD Z (xY Z Z)<|bR 8 Z Z<|dO h λE h=>aC (bE Z Z (bG (aE.res 2 Z) eG) Z Z E) Z<|Cv 2 (wI .i64 ((at' b.2.2 (at' a.1 (0:Int)))+(1:Int))) E Z Z Z Z Z Z Z<|aM<|aQ<|aA Z<|bU Z<|dL 0 Z<|aG (bW (e:=cD) ([((at' (at' d.2 (at' a.1 (0:Int))) b.1).1)]) [(0,vI ((at' (at' d.2 (at' a.1 (0:Int))) b.1).1))] Z Z Z Z (lQ (vI ((at' (at' d.2 (at' a.1 (0:Int))) b.1).1)) Z) Z Z Z) Z λS=>dO h λI h=>aG (eL 2 eG Z Z Z (bG (aE.res 0 Z) eG) Z Z Z Z I Z) Z λL=>aD Z<|eN<|oM ?_;exact cV ((b.2.1++([((at' (at' d.2 (at' a.1 (0:Int))) b.1).1)])),(List.set b.2.2 (Int.toNat ((at' (at' d.2 (at' a.1 (0:Int))) b.1).1)) (wI .i64 ((at' b.2.2 (at' a.1 (0:Int)))+(1:Int))))) (L) h SF (aY.ix [2,3,4] Z Z) (aF.refl _ _)
     refine dX<|oM ?_;exact cV (b.2.1,b.2.2) (j) h SF (aY.ix [1,2,3] Z Z) (aF.refl _ _)
    intro f n h;unfold pL at h;refine aQ<|cQ Z<|aA Z<|aM ?_;exact AK ((wI .i64 (b.1+(1:Int))),f.1,f.2) (n) h SF Z
   refine uV<|gK<|gK<|Av<|oM ?_;exact AK (b.2.1,b.2.2) (j) h SF Z
  refine fS ?_;exact cV (a.2) () h SF (aY.ix [1] Z Z) (aF.refl _ _)
 intro m v h;unfold tB at h;refine aT<|aA Z<|aD Z<|aM<|aS ?_;cases h;exact gJ (k) Z Z (RV.tmp Z) (aY.refl _) aF.nil
def pD  (a:Unit):Option (Bool):=
 some (true)
def j_ (c:aP) (a:Int) (b:(Int)->Option (Bool)):Option (Bool):=
 if a<(List.length c:Int)then(ck (0<=a∧a<(List.length c:Int)) (if(at' c a)<(0:Int)then(some (false))else(b (wI .i64 (a+(1:Int))))))else(pD  (()))
def eV (U:Nat) (a:cE):Option (Bool):=
 Option.bind (gG U ((a.1,a.2))) λb=>(if(!b)=true then(some (false))else(Option.bind (jA U ((a.1,a.2)) (0:Int)) λc=>(bL (j_ c) U (0:Int))))
theorem Pd:aR Tryz.prog 61:=Tryz.call61
theorem wB (U:Nat) {k:cE} (e:Value)  (f:Value)  (m:lA) (r:Bool) (h:eV U k=some r):
  aV Tryz.prog 61 #[Value.agg #[e,f]] [Sl bM e k.1,S2 a_ f m k.2] (λx:Unit=>vB (r)) (λx l=>l) (λ_ l=>l):=by
 refine aV.of Tryz.func61 Z Tryz.ntmps61 Z λc=>?_;refine aT<|aG (aL.box (cs:=[e,f]) Z Z) Z λt=>aD Z<|aM<|aJ<|aT<|dW 0 Z<|eZ h λp q h=>aG (aL.callQ Lg (xI U e f m p q) Z (nK [0,1] Z)) Z λu=>aC (sK Z) Z<|aM ?_;refine A_ h Z (λ_ h=>?_) λ_ h=>?_
 ·refine aT<|aD Z<|aM<|aS<|aI ?_;cases h;exact uU Z
 refine cU<|aJ<|fU (λi=>pD  i=some r) (λi n=>[]) (λi n=>[]) ?_ ?_
 ·refine aT<|dW 0 Z<|eZ h λj s h=>aG (aL.callQ Pe (Ak U e f m j s) Z (nK [0,1] Z)) Z λg=>aC (iU Z (bG (aE.res 0 Z) eG) Z) Z<|aA Z<|aM<|aU<|fD (j_ j) (λa b=>[(9,g),(10,vI (List.length j:Int)),(11,vI (a))]) (λa b=>[Ar cD g j]) (0:Int) () h SF (aY.ix [0] Z Z) ?_;intro o a b h;refine aT<|dA Z<|aM<|aJ ?_;refine fE h Z (λh=>?_) λh=>?_
  ·refine cU<|aJ<|aU<|aT<|dO h λd h=>aC (bE Z Z (bG (aE.res 0 Z) eG) Z Z d) Z<|aC (b_ Z (bG (aE.res 0 Z) eG) Z Z Z dU d) Z<|aD Z<|aM<|aT<|aA Z<|dA Z<|aM ?_;refine fE h Z (λh=>?_) λh=>?_
   ·refine aT<|aD Z<|aM<|aS<|bO<|aI<|aI<|bO<|aI ?_;cases h;exact uU Z
   refine dX<|oM<|aQ<|cQ Z<|aA Z<|aM ?_;exact AK (wI .i64 (a+(1:Int))) () h SF Z
  refine fS ?_;exact cV () (()) h SF .nil (aF.refl _ _)
 intro i n h;unfold pD at h;refine aT<|aD Z<|aM<|aS ?_;cases h;exact kW Z
def xT (U:Nat) (a:cE):Option (Bool):=
 Option.bind (eV U ((a.1,a.2))) λb=>(some (b))
theorem UD:aR Tryz.prog 39:=Tryz.call39
theorem GY (U:Nat) {d:cE} (a:Value)  (b:Value)  (e:lA) (r:Bool) (h:xT U d=some r):
  aV Tryz.prog 39 #[Value.agg #[a,b]] [Sl bM a d.1,S2 a_ b e d.2] (λx:Unit=>vB (r)) (λx l=>l) (λ_ l=>l):=by
 refine aV.of Tryz.func39 Z Tryz.ntmps39 Z λc=>?_;refine aT<|aG (aL.box (cs:=[a,b]) Z Z) Z λi=>aD Z<|aM<|aT<|dW 0 Z<|eZ h λf g h=>aG (aL.callQ Pd (wB U a b e f g) Z (nK [0,1] Z)) Z λj=>aD Z<|aM<|aS ?_;cases h;exact uU Z
def qQ  (a:Unit):Option (Bool):=
 some (true)
def kI (c:Int) (a:(Int)->Option (Bool)) (b:Unit):Option (Bool):=
 a (wI .i64 (c+(1:Int)))
def f_ (b:Int) (a:(Int)->Option (Bool)) (c:Bool):Option (Bool):=
 if c=true then(some (false))else(a (wI .i64 (b+(1:Int))))
def fZ (e:bA) (d:Int) (a:Int) (b:(Int)->Option (Bool)) (c:fG):Option (Bool):=
 if(at' (at' e d) a)<c.1 then(f_ a b (true))else(f_ a b (decide (c.2<(at' (at' e d) a))))
def cP (g:cE) (d:bA) (f:aP) (b:Int) (e:(Int)->Option (Bool)) (a:Int) (c:(Int)->Option (Bool)):Option (Bool):=
 if a<(List.length (at' d b):Int)then(ck (0<=a∧a<(List.length (at' d b):Int)) (ck (0<=a∧a<(List.length f:Int)) (if(at' f a)=(-1:Int)then(ck (0<=b∧b<(List.length g.2:Int)) (fZ d b a c ((-1:Int),(wI .i64 ((List.length (at' g.2 b):Int) - (1:Int))))))else(fZ d b a c ((0:Int),(at' f a))))))else(kI b e (()))
def eX (U:Nat) (e:cE) (b:bA) (d:aP) (a:Int) (c:(Int)->Option (Bool)):Option (Bool):=
 if a<(List.length b:Int)then(ck (0<=a∧a<(List.length b:Int)) (if(List.length (at' b a):Int)≠(List.length d:Int)then(some (false))else(bL (cP e b d a c) U (0:Int))))else(qQ  (()))
def eM (U:Nat) (a:cE) (b:bA) (c:aP):Option (Bool):=
 if(List.length b:Int)≠(List.length a.1:Int)then(some (false))else(bL (eX U a b c) U (0:Int))
theorem UF:aR Tryz.prog 56:=Tryz.call56
theorem yP (U:Nat) {g:cE} {e:bA} {j:aP} (o:Value)  (p:Value)  (H:lA)  (q:Value)  (E:qE)  (s:Value) (r:Bool) (h:eM U g e j=some r):
  aV Tryz.prog 56 #[Value.agg #[o,p],q,s] [Sl bM o g.1,S2 a_ p H g.2,S2 bM q E e,Sl bM s j] (λx:Unit=>vB (r)) (λx l=>l) (λ_ l=>l):=by
 refine aV.of Tryz.func56 Z Tryz.ntmps56 Z λc=>?_;refine aT<|aG (aL.box (cs:=[o,p]) Z Z) Z λk=>aD Z<|aM<|aJ<|aT<|aA Z<|aC (iX Z (aE.fact 2 Z) Z) Z<|bU Z<|dL 0 Z<|jX (aE.fact 0 Z) Z<|qD Z<|aM ?_;refine fE h Z (λh=>?_) λh=>?_
 ·refine aT<|aD Z<|aM<|aS<|aI ?_;cases h;exact uU Z
 refine cU<|aJ<|fU (λC=>qQ  C=some r) (λC F=>[]) (λC F=>[]) ?_ ?_
 ·refine aT<|aA Z<|aC (iX Z (aE.fact 2 Z) Z) Z<|aA Z<|aM<|aU<|fD (eX U g e j) (λa G=>[(2,s),(3,vP k),(19,q),(20,vI (List.length e:Int)),(21,vI (a))]) (λa G=>[bV k [o,p] 29]) (0:Int) () h SF (aY.refl _) ?_;intro D a G h;refine aT<|dA Z<|aM<|aJ ?_;refine fE h Z (λh=>?_) λh=>?_
  ·refine cU<|aJ<|fU (λm=>kI a (bL (eX U g e j) D) m=some r) (λm t=>[(2,s),(3,vP k),(19,q),(20,vI (List.length e:Int)),(21,vI (a))]) (λm t=>[bV k [o,p] 29]) ?_ ?_
   ·refine aU<|aT<|aA Z<|dO h λd h=>aC (c_ Z Z (aE.fact 2 Z) Z Z d) Z<|aC (dB Z (aE.fact 2 Z) Z Z d) Z<|aD Z<|aD Z<|aM<|aJ<|aT<|aA Z<|aC (iU Z (aE.el (aE.fact 2 Z) d.1 d.2) Z) Z<|aA Z<|jX (aE.fact 3 Z) Z<|qD Z<|aM ?_;refine fE h Z (λh=>?_) λh=>?_
    ·refine aT<|aD Z<|aM<|aS<|aI<|bO<|aI<|aI<|bO<|aI ?_;cases h;exact uU Z
    refine cU<|aT<|aA Z<|aC (iU Z (aE.el (aE.fact 2 Z) d.1 d.2) Z) Z<|aA Z<|aM<|aU<|fD (cP g e j a (bL (eX U g e j) D)) (λb u=>[(2,s),(3,vP k),(7,vI (a)),(19,q),(20,vI (List.length e:Int)),(21,vI (a)),(31,(at' E a).1),(32,vI (List.length (at' e a):Int)),(33,vI (b))]) (λb u=>[bV k [o,p] 29]) (0:Int) () h SF (aY.refl _) ?_;intro B b u h;refine aT<|dA Z<|aM<|aJ ?_;refine fE h Z (λh=>?_) λh=>?_
    ·refine cU<|aJ<|aU<|aT<|aA Z<|dO h λy h=>aC (bE Z Z (aE.el (aE.fact 2 Z) d.1 d.2) Z Z y) Z<|aC (b_ Z (aE.el (aE.fact 2 Z) d.1 d.2) Z Z Z dU y) Z<|aD Z<|aD Z<|aM<|aJ ?_;refine JR.start [0,0,3,7,0,31] 5 mixedOrders (by decide +kernel) ?_;refine JR.open (by exact rfl) ?_;refine bH Z<|bH Z<|dO h λA h=>bJ Z .nil (mE 3 Z) (bE Z Z (aE.fact 0 Z) Z Z A) aO.z<|bJ Z .nil (mE 3 Z) (b_ Z (aE.fact 0 Z) Z Z Z dU A) aO.z<|iD Z (mY Z)<|bR 5 Z Z<|aD Z<|aM<|aJ<|fU (λf=>fZ e a b (bL (cP g e j a (bL (eX U g e j) D)) B) f=some r) (λf v=>[(2,s),(3,vP k),(7,vI (a)),(10,vI (at' (at' e a) b)),(11,vI (f.1)),(12,vI (f.2)),(19,q),(20,vI (List.length e:Int)),(21,vI (a)),(31,(at' E a).1),(32,vI (List.length (at' e a):Int)),(33,vI (b))]) (λf v=>[bV k [o,p] 29]) ?_ ?_
     ·refine aT<|aA Z<|cJ Z<|aM ?_;refine fE h Z (λh=>?_) λh=>?_
      ·refine JR.start [0,1,0,7,15,31,63,0,255] 8 mixedOrders (by decide +kernel) ?_;refine JR.open (by exact rfl) ?_;refine cR Z<|gY 0 Z<|bH Z<|dO h λn h=>bJ Z .nil (mE 1 Z) (c_ Z Z (aE.fact 0 Z) Z Z n) aO.z<|bJ Z .nil (mE 1 Z) (dB Z (aE.fact 0 Z) Z Z n) aO.z<|bJ Z .nil (mE 1 Z) (iU Z (aE.el (aE.fact 0 Z) n.1 n.2) Z) aO.z<|iD Z (pX Z Z)<|iD Z (mY Z)<|bR 8 Z Z<|aD Z<|aM ?_;exact jL ((-1:Int),(wI .i64 ((List.length (at' g.2 a):Int) - (1:Int)))) () h SF Z
      refine cU ?_;exact jL ((0:Int),(at' j b)) () h SF Z
     intro f v h;refine aJ<|fU (λi=>f_ b (bL (cP g e j a (bL (eX U g e j) D)) B) i=some r) (λi w=>[(2,s),(3,vP k),(7,vI (a)),(19,q),(20,vI (List.length e:Int)),(21,vI (a)),(31,(at' E a).1),(32,vI (List.length (at' e a):Int)),(33,vI (b)),(58,vB (i))]) (λi w=>[bV k [o,p] 29]) ?_ ?_
     ·refine aQ<|aA Z<|aA Z<|dA Z<|aA Z ?_;refine Es h Z (λ_ h=>?_) λ_ h=>?_
      ·refine aN Z<|aN Z<|aN Z<|fF Z<|aM ?_;exact jL (true) () h SF Z
      refine e_ Z<|e_ Z<|aX Z (xP Z Z) Z<|iP Z<|aM ?_;exact jL (decide (f.2<(at' (at' e a) b))) () h SF Z
     intro i w h;refine A_ h Z (λ_ h=>?_) λ_ h=>?_
     ·refine aT<|aD Z<|aM<|aS<|bO<|aI<|aI<|bO<|bO<|aI<|aI<|bO<|aI ?_;cases h;exact uU Z
     refine dX<|oM<|aQ<|cQ Z<|aA Z<|aM ?_;exact AK (wI .i64 (b+(1:Int))) () h SF Z
    refine uV<|gK<|gK<|Av<|oM ?_;exact jL () (()) h SF Z
   intro m t h;unfold kI at h;refine aQ<|cQ Z<|aA Z<|aM ?_;exact AK (wI .i64 (a+(1:Int))) () h SF Z
  refine fS ?_;exact cV () (()) h SF .nil (aF.refl _ _)
 intro C F h;unfold qQ at h;refine aT<|aD Z<|aM<|aS ?_;cases h;exact kW Z
def jC  (a:Bool):Option (Bool):=
 some (a)
def jW (U:Nat) (a:cE) (c:bA):Option (Bool):=
 Option.bind (xT U ((a.1,a.2))) λd=>(if d=true then(Option.bind (eM U ((a.1,a.2)) c ([(List.length a.1:Int),(-1:Int),(1:Int),(1:Int),(3:Int),(1:Int)])) λb=>(jC  (b)))else(jC  (false)))
theorem aaz:aR Tryz.prog 34:=Tryz.call34
theorem Ct (U:Nat) {b:cE} {o:bA} (g:Value)  (i:Value)  (m:lA)  (j:Value)  (p:qE) (r:Bool) (h:jW U b o=some r):
  aV Tryz.prog 34 #[Value.agg #[g,i],j] [Sl bM g b.1,S2 a_ i m b.2,S2 bM j p o] (λx:Unit=>vB (r)) (λx l=>l) (λ_ l=>l):=by
 refine aV.of Tryz.func34 Z Tryz.ntmps34 Z λc=>?_;refine aT<|aG (aL.box (cs:=[g,i]) Z Z) Z λv=>aD Z<|aM<|aJ<|fU (λd=>jC  d=some r) (λd n=>[(4,vB (d))]) (λd n=>[]) ?_ ?_
 ·refine aQ<|dW 0 Z<|eZ h λq t h=>aG (aL.callQ UD (GY U g i m q t) Z (nK [0,1] Z)) Z λw=>aA Z ?_;refine Bm (by exact rfl) (by exact rfl) (λa=>?_) (λa=>?_)
  ·have h:=Ra a h;refine aX Z (fY 0 Z Z Z Z) Z<|e_ Z<|aX Z (eQ Z Z Z Z Z) Z<|aX Z (fV 0 Z Z Z Z Z) Z<|aX Z (iU Z (aE.fact 0 Z) Z) Z<|uW Z (bW (e:=cD) ([(List.length b.1:Int),(-1:Int),(1:Int),(1:Int),(3:Int),(1:Int)]) [(0,vI (List.length b.1:Int)),(1,vI (-1:Int)),(2,vI (1:Int)),(3,vI (1:Int)),(4,vI (3:Int)),(5,vI (1:Int))] Z Z Z Z (Vp (vI (List.length b.1:Int)) (vI (-1:Int)) (vI (1:Int)) (vI (1:Int)) (vI (3:Int)) (vI (1:Int)) Z Z Z Z Z Z) Z Z Z) Z λs=>eZ h λf k h=>uW Z (aL.callQ UF (yP U g i m j p s f k) Z (aF.cons (aE.fact 0 Z) (aF.cons (aE.fact 1 Z) (aF.cons (aE.fact 2 Z) (aF.cons (bG (aE.res 0 Z) eG) .nil))))) Z λu=>fF Z<|aD Z<|aM ?_;exact cV (f) () h SF .nil (aF.refl _ _)
  have h:=Ni a h;refine aN Z<|aN Z<|aN Z<|aN Z<|aN Z<|aN Z<|aN Z<|iP Z<|aD Z<|aM ?_;exact cV (false) () h SF .nil (aF.refl _ _)
 intro d n h;unfold jC at h;refine aS ?_;cases h;exact kW Z
def Gj (U:Nat) (a:cE):Option (Bool):=
 Option.bind (eV U ((a.1,a.2))) λb=>(some (b))
theorem aaR:aR Tryz.prog 85:=Tryz.call85
theorem Tu (U:Nat) {d:cE} (a:Value)  (b:Value)  (e:lA) (r:Bool) (h:Gj U d=some r):
  aV Tryz.prog 85 #[Value.agg #[a,b]] [Sl bM a d.1,S2 a_ b e d.2] (λx:Unit=>vB (r)) (λx l=>l) (λ_ l=>l):=by
 refine aV.of Tryz.func85 Z Tryz.ntmps85 Z λc=>?_;refine aT<|aG (aL.box (cs:=[a,b]) Z Z) Z λi=>aD Z<|aM<|aT<|dW 0 Z<|eZ h λf g h=>aG (aL.callQ Pd (wB U a b e f g) Z (nK [0,1] Z)) Z λj=>aD Z<|aM<|aS ?_;cases h;exact uU Z
def kJ  (a:Bool):Option (Bool):=
 some (a)
def nW (U:Nat) (a:cE) (c:bA):Option (Bool):=
 Option.bind (Gj U ((a.1,a.2))) λd=>(if d=true then(Option.bind (eM U ((a.1,a.2)) c ([(List.length a.1:Int),(-1:Int)])) λb=>(kJ  (b)))else(kJ  (false)))
theorem aaG:aR Tryz.prog 57:=Tryz.call57
theorem DT (U:Nat) {b:cE} {o:bA} (g:Value)  (i:Value)  (m:lA)  (j:Value)  (p:qE) (r:Bool) (h:nW U b o=some r):
  aV Tryz.prog 57 #[Value.agg #[g,i],j] [Sl bM g b.1,S2 a_ i m b.2,S2 bM j p o] (λx:Unit=>vB (r)) (λx l=>l) (λ_ l=>l):=by
 refine aV.of Tryz.func57 Z Tryz.ntmps57 Z λc=>?_;refine aT<|aG (aL.box (cs:=[g,i]) Z Z) Z λv=>aD Z<|aM<|aJ<|fU (λd=>kJ  d=some r) (λd n=>[(4,vB (d))]) (λd n=>[]) ?_ ?_
 ·refine aQ<|dW 0 Z<|eZ h λq t h=>aG (aL.callQ aaR (Tu U g i m q t) Z (nK [0,1] Z)) Z λw=>aA Z ?_;refine Bm (by exact rfl) (by exact rfl) (λa=>?_) (λa=>?_)
  ·have h:=Ra a h;refine aX Z (fY 0 Z Z Z Z) Z<|e_ Z<|aX Z (eQ Z Z Z Z Z) Z<|aX Z (fV 0 Z Z Z Z Z) Z<|aX Z (iU Z (aE.fact 0 Z) Z) Z<|uW Z (bW (e:=cD) ([(List.length b.1:Int),(-1:Int)]) [(0,vI (List.length b.1:Int)),(1,vI (-1:Int))] Z Z Z Z (IB (vI (List.length b.1:Int)) (vI (-1:Int)) Z Z) Z Z Z) Z λs=>eZ h λf k h=>uW Z (aL.callQ UF (yP U g i m j p s f k) Z (aF.cons (aE.fact 0 Z) (aF.cons (aE.fact 1 Z) (aF.cons (aE.fact 2 Z) (aF.cons (bG (aE.res 0 Z) eG) .nil))))) Z λu=>fF Z<|aD Z<|aM ?_;exact cV (f) () h SF .nil (aF.refl _ _)
  have h:=Ni a h;refine aN Z<|aN Z<|aN Z<|aN Z<|aN Z<|aN Z<|aN Z<|iP Z<|aD Z<|aM ?_;exact cV (false) () h SF .nil (aF.refl _ _)
 intro d n h;unfold kJ at h;refine aS ?_;cases h;exact kW Z
def lR (U:Nat) (a:cE) (c:Int) (b:Bool):Option aP:=
 if b=true then(some ([]:aP))else(Option.bind (jA U ((a.1,a.2)) c) λd=>(some (d)))
def nC (U:Nat) (a:cE) (b:Int):Option aP:=
 Option.bind (gG U ((a.1,a.2))) λc=>(if(!c)=true then(lR U a b (true))else(if b<(0:Int)then(lR U a b (true))else(lR U a b (decide ((List.length a.2:Int)<=b)))))
theorem aaH:aR Tryz.prog 58:=Tryz.call58
theorem FG (U:Nat) {f:cE} {g:Int} (b:Value)  (d:Value)  (j:lA) (r:aP) (h:nC U f g=some r):
  aV Tryz.prog 58 #[Value.agg #[b,d],vI (g)] [Sl bM b f.1,S2 a_ d j f.2] (λx:Value=>x) (λx l=>Ar cD x r::l) (λ_ l=>l):=by
 refine aV.of Tryz.func58 Z Tryz.ntmps58 Z λc=>?_;refine aT<|aG (aL.box (cs:=[b,d]) Z Z) Z λk=>aD Z<|aM<|aJ<|aJ<|fU (λe=>lR U f g e=some r) (λe m=>[(1,vI (g)),(2,vP k),(18,vB (e))]) (λe m=>[bV k [b,d] 29]) ?_ ?_
 ·refine aQ<|dW 0 Z<|eZ h λo i h=>aG (aL.callQ Lg (xI U b d j o i) Z (nK [0,1] Z)) Z λq=>aC (sK Z) Z<|aA Z ?_;refine Bm (by exact rfl) (by exact rfl) (λa=>?_) (λa=>?_)
  ·have h:=Ra a h;refine aN Z<|aN Z<|fF Z<|aA Z<|aN Z<|aN Z<|aN Z<|aN Z<|aN Z<|fF Z<|aM ?_;exact jL (true) () h SF Z
  have h:=Ni a h;refine e_ Z<|aX Z (Ib Z Z) Z<|iP Z<|aA Z ?_;refine Es h Z (λ_ h=>?_) λ_ h=>?_
  ·refine aN Z<|aN Z<|aN Z<|aN Z<|aN Z<|fF Z<|aM ?_;exact jL (true) () h SF Z
  refine e_ Z<|aX Z (eQ Z Z Z Z Z) Z<|aX Z (fV 0 Z Z Z Z Z) Z<|aX Z (iX Z (aE.fact 1 Z) Z) Z<|aX Z (EV Z Z) Z<|iP Z<|aM ?_;exact jL (decide ((List.length f.2:Int)<=g)) () h SF Z
 intro e m h;refine A_ h Z (λ_ h=>?_) λ_ h=>?_
 ·refine aT<|aD Z<|aM<|aS<|aI<|iW (gR cD) ?_;cases h;exact gJ (kE) Z Z (RV.tmp Z) (aY.ix [0] Z Z) aF.nil
 refine cU<|aT<|dW 0 Z<|aA Z<|eZ h λn p h=>aG (aL.callQ Pe (Ak U b d j n p) Z (nK [0,1] Z)) Z λs=>aD Z<|aM<|aS ?_;cases h;exact gJ (s) Z Z (RV.tmp Z) (aY.ix [0] Z Z) aF.nil
def xC (U:Nat) (b:fG) (a:aP) (c:Int):Option (Bool):=
 ck (0<=b.1∧b.1<(List.length a:Int)) (ck (0<=c∧c<(List.length a:Int)) (some (decide ((at' a b.1)=(wI .i64 ((at' a c) - (1:Int)))))))
theorem aaS:aR Tryz.prog 88:=Tryz.call88
theorem JC (U:Nat) {d:fG} {g:aP} {i:Int} (a:Nat)  (j:Value)  (b:Nat) (r:Bool) (h:xC U d g i=some r):
  aV Tryz.prog 88 #[Value.agg #[vI (d.1),vI (d.2)],vP a,vP b] [bV a [j] 22,Sl bM j g,bV b [vI (i)] 3] (λx:Unit=>vB (r)) (λx l=>l) (λ_ l=>l):=by
 refine aV.of Tryz.func88 Z Tryz.ntmps88 Z λc=>?_;refine aT<|aG (aL.box (cs:=[vI (d.1),vI (d.2)]) Z Z) Z λk=>aD Z<|aM<|aJ ?_;refine JR.start [0,0,2,7,15,0,0,96,224,480,1023,2047] 10 mixedOrders (by decide +kernel) ?_;refine JR.open (by exact rfl) ?_;refine bJ Z .nil (mE 0 Z) (dC Z (aE.fact 0 Z) Z Z Z) aO.z<|cR Z<|gY 0 Z<|dO h λe h=>bJ Z .nil (mE 1 Z) (bE Z Z (aE.fact 0 Z) Z Z e) aO.z<|bJ Z .nil (mE 1 Z) (b_ Z (aE.fact 0 Z) Z Z Z dU e) aO.z<|bJ Z .nil (mE 0 Z) (dC Z (aE.fact 0 Z) Z Z Z) aO.z<|bJ Z .nil (mE 2 Z) (dC Z (aE.fact 0 Z) Z Z Z) aO.z<|dO h λf h=>bJ Z .nil (mE 1 Z) (bE Z Z (aE.fact 0 Z) Z Z f) aO.z<|bJ Z .nil (mE 1 Z) (b_ Z (aE.fact 0 Z) Z Z Z dU f) aO.z<|iD Z (pX Z Z)<|bR 10 Z Z<|cJ Z<|aD Z<|aM<|aS ?_;cases h;exact uU Z
def yG  (a:Unit):Option (Bool):=
 some (true)
def tI (c:aP) (d:aP) (a:Int) (b:(Int)->Option (Bool)):Option (Bool):=
 if a<(List.length c:Int)then(ck (0<=a∧a<(List.length c:Int)) (ck (0<=a∧a<(List.length d:Int)) (if(at' c a)≠(at' d a)then(some (false))else(b (wI .i64 (a+(1:Int)))))))else(yG  (()))
def vR (U:Nat) (a:aP) (b:aP):Option (Bool):=
 if(List.length a:Int)≠(List.length b:Int)then(some (false))else(bL (tI a b) U (0:Int))
theorem aaT:aR Tryz.prog 89:=Tryz.call89
theorem Jh (U:Nat) {f:aP} {g:aP} (i:Value)  (j:Value) (r:Bool) (h:vR U f g=some r):
  aV Tryz.prog 89 #[i,j] [Sl bM i f,Sl bM j g] (λx:Unit=>vB (r)) (λx l=>l) (λ_ l=>l):=by
 refine aV.of Tryz.func89 Z Tryz.ntmps89 Z λc=>?_;refine aT<|aD Z<|aM<|aJ<|aT<|aA Z<|jX (aE.fact 0 Z) Z<|aA Z<|jX (aE.fact 1 Z) Z<|qD Z<|aM ?_;refine fE h Z (λh=>?_) λh=>?_
 ·refine aT<|aD Z<|aM<|aS<|aI ?_;cases h;exact kW Z
 refine cU<|aJ<|fU (λd=>yG  d=some r) (λd k=>[]) (λd k=>[]) ?_ ?_
 ·refine aT<|aA Z<|jX (aE.fact 0 Z) Z<|aA Z<|aM<|aU<|fD (tI f g) (λe m=>[(0,i),(1,j),(12,vI (List.length f:Int)),(13,vI (e))]) (λe m=>[]) (0:Int) () h SF (aY.refl _) ?_;intro n e m h;refine aT<|dA Z<|aM<|aJ ?_;refine fE h Z (λh=>?_) λh=>?_
  ·refine cU<|aJ<|aU<|aT<|aA Z<|aD Z<|aM<|aJ ?_;refine JR.start [0,0,3,7,0,0,48,112,255] 8 mixedOrders (by decide +kernel) ?_;refine JR.open (by exact rfl) ?_;refine bH Z<|bH Z<|dO h λa h=>bJ Z .nil (mE 0 Z) (bE Z Z (aE.fact 0 Z) Z Z a) aO.z<|bJ Z .nil (mE 0 Z) (b_ Z (aE.fact 0 Z) Z Z Z dU a) aO.z<|bH Z<|bH Z<|dO h λb h=>bJ Z .nil (mE 1 Z) (bE Z Z (aE.fact 0 Z) Z Z b) aO.z<|bJ Z .nil (mE 1 Z) (b_ Z (aE.fact 0 Z) Z Z Z dU b) aO.z<|bR 8 Z Z<|qD Z<|aM ?_;refine fE h Z (λh=>?_) λh=>?_
   ·refine aT<|aD Z<|aM<|aS<|bO<|aI<|aI<|bO<|aI ?_;cases h;exact kW Z
   refine dX<|oM<|aQ<|cQ Z<|aA Z<|aM ?_;exact AK (wI .i64 (e+(1:Int))) () h SF Z
  refine fS ?_;exact jL () (()) h SF Z
 intro d k h;unfold yG at h;refine aT<|aD Z<|aM<|aS ?_;cases h;exact kW Z
def vA (U:Nat) (a:Int) (c:aP) (e:aP) (d:Int):Option (Bool):=
 ck (0<=a∧a<(List.length c:Int)) (Option.bind (vR U e ([(at' c a),d])) λb=>(some (b)))
def By (U:Nat) (b:Int) (c:aP) (d:aP) (a:Unit):Option (Bool):=
 vA U b c d (-1:Int)
def rA (U:Nat) (d:cE) (b:Int) (e:aP) (g:aP) (a:Int) (c:(Int)->Option (Bool)):Option (Bool):=
 if a<(List.length (at' d.2 b):Int)then(ck (0<=a∧a<(List.length (at' d.2 b):Int)) (Option.bind (xC U ((((at' (at' d.2 b) a).1),((at' (at' d.2 b) a).2))) e b) λf=>(if f=true then(vA U b e g (a))else(c (wI .i64 (a+(1:Int)))))))else(By U b e g (()))
def uM (U:Nat) (b:cE) (a:Int) (c:aP) (d:aP):Option (Bool):=
 ck (0<=a∧a<(List.length b.2:Int)) (bL (rA U b a c d) U (0:Int))
theorem aaI:aR Tryz.prog 59:=Tryz.call59
theorem NU (U:Nat) {f:cE} {b:Int} {j:aP} {o:aP} (p:Value)  (q:Value)  (F:lA)  (n:Value)  (v:Value) (r:Bool) (h:uM U f b j o=some r):
  aV Tryz.prog 59 #[Value.agg #[p,q],vI (b),n,v] [Sl bM p f.1,S2 a_ q F f.2,Sl bM n j,Sl bM v o] (λx:Unit=>vB (r)) (λx l=>l) (λ_ l=>l):=by
 refine aV.of Tryz.func59 Z Tryz.ntmps59 Z λc=>?_;refine aT<|aG (aL.box (cs:=[p,q]) Z Z) Z λN=>aG (aL.box (cs:=[vI (b)]) Z Z) Z λk=>bX (Know.one ((aE.fact 2 Z))) λy=>?_;refine aG (aL.box (cs:=[n]) Z (by rw[eR y])) Z λm=>?_;refine aD Z<|aM<|aT<|dW 2 Z<|dL 1 Z<|aC (wP (cs:=[.tmp 6,.tmp 5]) (vs:=[vP m,vP k]) Z) Z<|zJ (A:=Int) (B:=Unit) (vs:=[Value.agg #[p,q],vI (b),Value.func (.func 88) #[] #[vP m,vP k]]) (λi=>vA U b j o i=some r) (λi w=>vI (i)) (λi w=>[bV m [n] 22,bV k [vI (b)] 3]) (λi w=>[Sl bM p f.1,S2 a_ q F f.2,Sl bM n j,Sl bM v o]) (qG.fn (show aR Tryz.prog 87 from Tryz.call87) Z) Tryz.func87 Z Tryz.ntmps87 Z Z ?_ ?_
 ·refine aT<|aG (aL.box (cs:=[p,q]) Z Z) Z λH=>aD Z<|aM<|aJ<|fU (λg=>By U b j o g=some r) (λg s=>[]) (λg s=>[bV m [n] 22,bV k [vI (b)] 3]) ?_ ?_
  ·refine aT<|bU Z<|dL 0 Z<|aA Z<|dO h λd h=>aC (c_ Z Z (aE.fact 1 Z) Z Z d) Z<|aC (dB Z (aE.fact 1 Z) Z Z d) Z<|aC (iU Z (aE.el (aE.fact 1 Z) d.1 d.2) Z) Z<|aA Z<|aM<|aU<|fD (rA U f b j o) (λa t=>[(2,Value.func (.func 88) #[] #[vP m,vP k]),(13,(at' F b).1),(14,vI (List.length (at' f.2 b):Int)),(15,vI (a))]) (λa t=>[bV m [n] 22,bV k [vI (b)] 3]) (0:Int) () h SF (aY.ix [1,2] Z Z) ?_;intro J a t h;refine aT<|dA Z<|aM<|aJ ?_;refine fE h Z (λh=>?_) λh=>?_
   ·refine cU<|aJ<|aU<|aT<|aA Z<|dO h λu h=>aC (bE Z Z (aE.el (aE.fact 1 Z) d.1 d.2) Z Z u) Z<|aC (h_ (cs:=[vI ((at' (at' f.2 b) a).1),vI ((at' (at' f.2 b) a).2)]) Z (aE.el (aE.fact 1 Z) d.1 d.2) bQ Z Z Z Z u) Z<|aG (aL.alloc (cs:=Tz) Z Z) Z λI=>aD Z<|bN 0 (vs:=[vI ((at' (at' f.2 b) a).1),vI ((at' (at' f.2 b) a).2)]) Z Z Z Z Z Z<|aM<|aT<|aA Z<|dW 0 Z<|eZ h λC E h=>aG (uE (vs:=[Value.agg #[vI ((at' (at' f.2 b) a).1),vI ((at' (at' f.2 b) a).2)]]) (cs:=[vP m,vP k]) aaS Z (JC U m n k C E) Z (aF.cons (aE.res 1 Z) (aF.cons (aE.fact 2 Z) (aF.cons (aE.res 2 Z) .nil))) (λ_ _=>rfl)) Z λM=>aM ?_;refine A_ h Z (λ_ h=>?_) λ_ h=>?_
    ·refine aT<|aA Z<|aD Z<|aM<|aS<|bO<|aI<|aI<|bO<|aI ?_;exact qJ (a) () h (.inl Z) (EP.r1 Z (RV.tmp Z)) Z (aY.ix [1,2] Z Z) (aF.refl _ _)
    refine dX<|oM<|aQ<|cQ Z<|aA Z<|aM ?_;exact lM (wI .i64 (a+(1:Int))) () h SF (aY.ix [1,2] Z Z) (aF.refl _ _)
   refine fS ?_;exact jL () (()) h SF Z
  intro g s h;unfold By at h;refine aT<|aD Z<|aM<|aS ?_;exact qJ (-1:Int) () h (.inl Z) (EP.r1 Z (RV.tmp Z)) Z (aY.refl _) (aF.refl _ _)
 intro i w h;refine aD Z<|aM<|aT<|aA Z<|dL 0 Z<|dL 1 Z<|dO h λG h=>aC (bE Z Z (aE.fact 2 Z) Z Z G) Z<|aC (b_ Z (aE.fact 2 Z) Z Z Z dU G) Z<|aA Z<|aG (bW (e:=cD) ([(at' j b),i]) [(0,vI (at' j b)),(1,vI (i))] Z Z Z Z (IB (vI (at' j b)) (vI (i)) Z Z) Z Z Z) Z λK=>eZ h λz D h=>aG (aL.callQ aaT (Jh U v K z D) Z (aF.cons (aE.fact 3 Z) (aF.cons (bG (aE.res 0 Z) eG) .nil))) Z λL=>aD Z<|aM<|aS ?_;cases h;exact uU Z
def Bw  (a:Unit):Option (Bool):=
 some (true)
def yW (U:Nat) (e:cE) (c:bA) (f:aP) (a:Int) (b:(Int)->Option (Bool)):Option (Bool):=
 if a<(List.length c:Int)then(ck (0<=a∧a<(List.length c:Int)) (Option.bind (uM U ((e.1,e.2)) a f (at' c a)) λd=>(if(!d)=true then(some (false))else(b (wI .i64 (a+(1:Int)))))))else(Bw  (()))
def uL (U:Nat) (a:cE) (b:bA):Option (Bool):=
 Option.bind (nW U ((a.1,a.2)) b) λc=>(if(!c)=true then(some (false))else(Option.bind (nC U ((a.1,a.2)) (0:Int)) λd=>(bL (yW U a b d) U (0:Int))))
theorem aaA:aR Tryz.prog 35:=Tryz.call35
theorem NT (U:Nat) {j:cE} {k:bA} (d:Value)  (e:Value)  (n:lA)  (m:Value)  (t:qE) (r:Bool) (h:uL U j k=some r):
  aV Tryz.prog 35 #[Value.agg #[d,e],m] [Sl bM d j.1,S2 a_ e n j.2,S2 bM m t k] (λx:Unit=>vB (r)) (λx l=>l) (λ_ l=>l):=by
 refine aV.of Tryz.func35 Z Tryz.ntmps35 Z λc=>?_;refine aT<|aG (aL.box (cs:=[d,e]) Z Z) Z λu=>aD Z<|aM<|aJ<|aT<|dW 0 Z<|aA Z<|eZ h λw y h=>aG (aL.callQ aaG (DT U d e n m t w y) Z (nK [0,1,2] Z)) Z λB=>aC (sK Z) Z<|aM ?_;refine A_ h Z (λ_ h=>?_) λ_ h=>?_
 ·refine aT<|aD Z<|aM<|aS<|aI ?_;cases h;exact uU Z
 refine cU<|aT<|dW 0 Z<|eZ h λp z h=>aG (aL.callQ aaH (FG U d e n p z) Z (nK [0,1] Z)) Z λs=>aD Z<|aM<|aJ<|fU (λi=>Bw  i=some r) (λi f=>[]) (λi f=>[]) ?_ ?_
 ·refine aT<|aA Z<|aC (iX Z (aE.fact 2 Z) Z) Z<|aA Z<|aM<|aU<|fD (yW U j k p) (λa g=>[(2,vP u),(5,s),(14,m),(15,vI (List.length k:Int)),(16,vI (a))]) (λa g=>[Ar cD s p,bV u [d,e] 29]) (0:Int) () h SF (aY.refl _) ?_;intro v a g h;refine aT<|dA Z<|aM<|aJ ?_;refine fE h Z (λh=>?_) λh=>?_
  ·refine cU<|aJ<|aU<|aT<|aA Z<|dO h λb h=>aC (c_ Z Z (aE.fact 2 Z) Z Z b) Z<|aC (dB Z (aE.fact 2 Z) Z Z b) Z<|aD Z<|aD Z<|aM<|aT<|dW 1 Z<|aA Z<|aA Z<|aA Z<|eZ h λo q h=>aG (aL.callQ aaI (NU U d e n s ((at' t a).1) o q) Z (aF.cons (aE.fact 0 Z) (aF.cons (aE.fact 1 Z) (aF.cons (bG (aE.res 0 Z) eG) (aF.cons (aE.el (aE.fact 2 Z) b.1 b.2) .nil))))) Z λA=>aC (sK Z) Z<|aM ?_;refine A_ h Z (λ_ h=>?_) λ_ h=>?_
   ·refine aT<|aD Z<|aM<|aS<|bO<|aI<|aI<|bO<|aI ?_;cases h;exact uU Z
   refine dX<|oM<|aQ<|cQ Z<|aA Z<|aM ?_;exact AK (wI .i64 (a+(1:Int))) () h SF Z
  refine fS ?_;exact cV () (()) h SF .nil (aF.refl _ _)
 intro i f h;unfold Bw at h;refine aT<|aD Z<|aM<|aS ?_;cases h;exact kW Z
def Ab  (a:Unit):Option (Bool):=
 some (true)
def oV (a:Int) (c:(Int)->Option (Bool)) (b:Bool):Option (Bool):=
 if b=true then(some (false))else(c (wI .i64 (a+(1:Int))))
def jB (b:bA) (a:Int) (c:(Int)->Option (Bool)):Option (Bool):=
 if a<(List.length b:Int)then(ck (0<=a∧a<(List.length b:Int)) (ck (0<=(2:Int)∧(2:Int)<(List.length (at' b a):Int)) (if(at' (at' b a) (2:Int))≠(0:Int)then(oV a c (true))else(ck (0<=(5:Int)∧(5:Int)<(List.length (at' b a):Int)) (if(at' (at' b a) (5:Int))≠(0:Int)then(oV a c (true))else(ck (0<=(3:Int)∧(3:Int)<(List.length (at' b a):Int)) (ck (0<=(0:Int)∧(0:Int)<(List.length b:Int)) (ck (0<=(3:Int)∧(3:Int)<(List.length (at' b (0:Int)):Int)) (oV a c (decide ((at' (at' b a) (3:Int))≠(at' (at' b (0:Int)) (3:Int)))))))))))))else(Ab  (()))
def oU (U:Nat) (b:bA) (a:Bool):Option (Bool):=
 if a=true then(some (false))else(bL (jB b) U (0:Int))
def CZ (U:Nat) (c:cE) (d:bA) (a:bA):Option (Bool):=
 Option.bind (uL U ((c.1,c.2)) a) λb=>(oU U d ((!b)))
def vW (U:Nat) (b:cE) (c:bA) (a:bA):Option (Bool):=
 CZ U b c (a)
def qZ (U:Nat) (d:cE) (c:bA) (a:Int×bA) (b:(Int×bA)->Option (Bool)):Option (Bool):=
 if a.1<(List.length c:Int)then(ck (0<=a.1∧a.1<(List.length c:Int)) (ck (0<=(0:Int)∧(0:Int)<=(2:Int)∧(2:Int)<=(2:Int)∧(2:Int)<=(List.length (at' c a.1):Int)) (ck (0<=a.1∧a.1<(List.length a.2:Int)) (b ((wI .i64 (a.1+(1:Int))),(List.set a.2 (Int.toNat a.1) (List.drop (Int.toNat (0:Int)) (List.take (Int.toNat (2:Int)) (at' c a.1)))))))))else(vW U d c (a.2))
def lF (U:Nat) (b:cE) (a:bA):Option (Bool):=
 Option.bind (jW U ((b.1,b.2)) a) λc=>(if(!c)=true then(oU U a (true))else(ck (0<=(List.length a:Int)∧(List.length a:Int)<=1099511627) (bL (qZ U b a) U ((0:Int),(List.replicate (Int.toNat (List.length a:Int)) ([]:aP))))))
theorem Uz:aR Tryz.prog 14:=Tryz.call14
theorem Ee (U:Nat) {p0:cE} {p1:bA} (C:Value)  (D:Value)  (F:lA)  (s:Value)  (G:qE) (r:Bool) (h:lF U p0 p1=some r):
  aV Tryz.prog 14 #[Value.agg #[C,D],s] [Sl bM C p0.1,S2 a_ D F p0.2,S2 bM s G p1] (λx:Unit=>vB (r)) (λx l=>l) (λ_ l=>l):=by
 refine aV.of Tryz.func14 Z Tryz.ntmps14 Z λc=>?_;refine aT<|aG (aL.box (cs:=[C,D]) Z Z) Z λS=>aD Z<|aM<|aJ<|aJ<|fU (λH=>oU U p1 H=some r) (λH b4=>[(1,s),(17,vB (H))]) (λH b4=>[]) ?_ ?_
 ·refine JR.start [0,0,3,7,15,31,31,95,255,511,1023] 8 mixedOrders (by decide +kernel) ?_;refine JR.open (by exact rfl) ?_;refine kS 0 Z<|bH Z<|eZ h λW X h=>JR.loud Z Z Z (aL.callQ aaz (Ct U C D F s G W X) Z (nK [0,1,2] Z)) Z (λaa=>(rY [] Z)) λaa=>iD Z (sK Z)<|iD Z (iY Z) ?_;refine JR.guard (by exact rfl) (by exact rfl) (by exact rfl) (λw=>?_) (λw=>?_)
  ·have h:=Ra w h;refine eO Z Z Z Z<|eO Z Z Z Z<|eO Z Z Z Z<|bR 8 Z Z<|aN Z<|aN Z<|fF Z<|aM ?_;exact cV (true) () h SF .nil (aF.refl _ _)
  have h:=Ni w h;refine uX Z (aY.cons 0 Z .nil) .nil (fY 0 Z Z Z Z) (hkI Z)<|uX Z .nil .nil (iY Z) (hkI Z)<|TX (A:=bA) (B:=Jq) (vs:=[s]) (λn=>CZ U p0 p1 n=some r) (λn d=>d.1) (λn d=>[Ar cT.raw d.1 d.2,bV S [C,D] 29]) (λn d=>[ZG bM d.2 n,Sl bM C p0.1,S2 a_ D F p0.2,S2 bM s G p1]) Z Z Z Z (qG.fn (show aR Tryz.prog 36 from Tryz.call36) Z) Tryz.func36 Z Tryz.ntmps36 Z Z (λ_ _=>(rY [([1],[])] Z)) ?_ ?_
  ·refine aT<|aD Z<|aM<|aT<|aA Z<|aC (iX Z (aE.fact 2 Z) Z) Z<|dO h λT h=>Xu bM (Int.toNat (List.length p1:Int))<|aG (pC (e:=cT.raw) (kE) Z Z Z Z T Z Z Z) Z λy=>aD Z<|aM<|aJ<|zK (B:=eW) (λo=>vW U p0 p1 o=some r) (λo p=>[(3,y)]) (λo p=>[Ar cT.raw y p,bV S [C,D] 29]) (λo p=>[ZG bM p o,Sl bM C p0.1,S2 a_ D F p0.2,S2 bM s G p1]) ?_ ?_
   ·refine aT<|aA Z<|aC (iX Z (aE.fact 3 Z) Z) Z<|aA Z<|aM<|aU<|Dq (B:=eW) (qZ U p0 p1) (λb f=>[(3,y),(9,s),(10,vI (List.length p1:Int)),(11,vI (b.1))]) (λb f=>[Ar cT.raw y f,bV S [C,D] 29]) (λb f=>[ZG bM f b.2,Sl bM C p0.1,S2 a_ D F p0.2,S2 bM s G p1]) ((0:Int),(List.replicate (Int.toNat (List.length p1:Int)) ([]:aP))) (List.replicate (Int.toNat (List.length p1:Int)) (kE)) h SF (aY.refl _) (aF.refl _ _) ?_;intro ab b f h;refine aT<|dA Z<|aM<|aJ ?_;refine fE h Z (λh=>?_) λh=>?_
    ·refine cU<|aJ<|aU<|aT<|aA Z<|dO h λg h=>aC (c_ Z Z (aE.fact 3 Z) Z Z g) Z<|aC (dB Z (aE.fact 3 Z) Z Z g) Z<|aD Z<|aD Z<|aM<|aQ<|aA Z<|aA Z<|aA Z<|dO h λE h=>aC (Sr Z Z Z Z (aE.el (aE.fact 3 Z) g.1 g.2) Z Z E) Z<|dO h λP h=>aC (c_ Z Z (HU (i:=0) (j:=0) Z Z) Z Z P) Z<|bX (Know.one ((HT (aE.el (aE.fact 3 Z) g.1 g.2) Z E))) λK=>Sd 0 0 P Z Z Z Z K Z<|Xy (k:=Int.toNat b.1) 0 (vs:=f) Z (HT (aE.el (aE.fact 3 Z) g.1 g.2) Z E)<|eN<|oM<|aQ<|cQ Z<|aA Z<|aM ?_;exact AK ((wI .i64 (b.1+(1:Int))),(List.set b.2 (Int.toNat b.1) (List.drop (Int.toNat (0:Int)) (List.take (Int.toNat (2:Int)) (at' p1 b.1))))) (List.set f (Int.toNat b.1) (sl3 ((at' G b.1).1) (Int.toNat (0:Int)) (Int.toNat (2:Int)) (Int.toNat (2:Int)) 1)) h SF Z
    refine fS ?_;exact jL (b.2) (f) h SF Z
   intro o p h;unfold vW at h;refine aT<|aA Z<|aD Z<|aM<|aS ?_;exact qJ (o) (y,p) h (.inl Z) (EP.r1 Z (RV.tmp Z)) Z (aY.refl _) (aF.refl _ _)
  intro n d h;refine bR 8 Z Z<|eZ h λQ Y h=>uW Z (aL.callQ aaA (NT U C D F d.1 (List.zip d.2 n) Q Y) Z (aF.cons (aE.fact 1 Z) (aF.cons (aE.fact 2 Z) (aF.cons (HU (i:=0) (j:=0) Z Z) .nil)))) Z λac=>aX Z (sK Z) Z<|iP Z<|aM ?_;exact cV ((!Q)) () h SF .nil (nK [1,2,3] Z)
 intro H b4 h;refine A_ h Z (λ_ h=>?_) λ_ h=>?_
 ·refine aT<|aD Z<|aM<|aS<|aI ?_;cases h;exact kW Z
 refine cU<|aJ<|fU (λR=>Ab  R=some r) (λR b7=>[]) (λR b7=>[]) ?_ ?_
 ·refine aT<|aA Z<|aC (iX Z (aE.fact 2 Z) Z) Z<|aA Z<|aM<|aU<|fD (jB p1) (λm I=>[(1,s),(18,s),(19,vI (List.length p1:Int)),(20,vI (m))]) (λm I=>[]) (0:Int) () h SF (aY.refl _) ?_;intro V m I h;refine aT<|dA Z<|aM<|aJ ?_;refine fE h Z (λh=>?_) λh=>?_
  ·refine cU<|aJ<|aU<|aT<|dO h λa h=>aC (c_ Z Z (aE.fact 2 Z) Z Z a) Z<|aC (dB Z (aE.fact 2 Z) Z Z a) Z<|aD Z<|aM<|aJ<|fU (λt=>oV m (bL (jB p1) V) t=some r) (λt J=>[(1,s),(18,s),(19,vI (List.length p1:Int)),(20,vI (m)),(44,vB (t))]) (λt J=>[]) ?_ ?_
   ·refine JR.start [0,1,3,7,15,31,63,127,255,511,1023,2047,4095,8191,2047,18431,51199,116735,247807,524287,1048575] 19 mixedOrders (by decide +kernel) ?_;refine JR.open (by exact rfl) ?_;refine bH Z<|dO h λL h=>bJ Z .nil (mE 2 Z) (bE Z Z (aE.el (aE.fact 0 Z) a.1 a.2) Z Z L) aO.z<|bJ Z .nil (mE 2 Z) (b_ Z (aE.el (aE.fact 0 Z) a.1 a.2) Z Z Z dU L) aO.z<|iD Z (EW Z Z)<|bH Z ?_;refine JM (by exact rfl) (by exact rfl) (by exact rfl) (λu=>?_) (λu=>?_)
    ·have h:=Ra u h;refine eO Z Z Z Z<|eO Z Z Z Z<|eO Z Z Z Z<|eO Z Z Z Z<|iD Z (Qq Z Z)<|bH Z<|eO Z Z Z Z<|eO Z Z Z Z<|eO Z Z Z Z<|eO Z Z Z Z<|eO Z Z Z Z<|eO Z Z Z Z<|eO Z Z Z Z<|eO Z Z Z Z<|bR 19 Z Z<|aN Z<|fF Z<|aM ?_;exact jL (true) () h SF Z
    have h:=ifN u h;refine uX Z .nil .nil (iY Z) aO.z<|dO h λM h=>uX Z .nil (mE 2 Z) (bE Z Z (aE.el (aE.fact 0 Z) a.1 a.2) Z Z M) aO.z<|uX Z .nil (mE 2 Z) (b_ Z (aE.el (aE.fact 0 Z) a.1 a.2) Z Z Z dU M) aO.z<|uX Z .nil .nil (EW Z Z) aO.z<|iD Z (Qp Z Z)<|bH Z ?_;refine JM (by exact rfl) (by exact rfl) (by exact rfl) (λv=>?_) (λv=>?_)
    ·have h:=Ra v h;refine eO Z Z Z Z<|eO Z Z Z Z<|eO Z Z Z Z<|eO Z Z Z Z<|eO Z Z Z Z<|eO Z Z Z Z<|eO Z Z Z Z<|eO Z Z Z Z<|bR 19 Z Z<|aN Z<|fF Z<|aM ?_;exact jL (true) () h SF Z
    have h:=ifN v h;refine uX Z .nil .nil (iY Z) aO.z<|dO h λN h=>uX Z .nil (mE 2 Z) (bE Z Z (aE.el (aE.fact 0 Z) a.1 a.2) Z Z N) aO.z<|uX Z .nil (mE 2 Z) (b_ Z (aE.el (aE.fact 0 Z) a.1 a.2) Z Z Z dU N) aO.z<|uX Z .nil .nil (iY Z) aO.z<|dO h λq h=>uX Z .nil (mE 2 Z) (c_ Z Z (aE.fact 0 Z) Z Z q) aO.z<|uX Z .nil (mE 2 Z) (dB Z (aE.fact 0 Z) Z Z q) aO.z<|dO h λO h=>uX Z .nil (mE 2 Z) (bE Z Z (aE.el (aE.fact 0 Z) q.1 q.2) Z Z O) aO.z<|uX Z .nil (mE 2 Z) (b_ Z (aE.el (aE.fact 0 Z) q.1 q.2) Z Z Z dU O) aO.z<|bR 19 Z Z<|aX Z (EW Z Z) Z<|iP Z<|aM ?_;exact jL (decide ((at' (at' p1 m) (3:Int))≠(at' (at' p1 (0:Int)) (3:Int)))) () h SF Z
   intro t J h;refine A_ h Z (λ_ h=>?_) λ_ h=>?_
   ·refine aT<|aD Z<|aM<|aS<|bO<|aI<|aI<|bO<|aI ?_;cases h;exact kW Z
   refine dX<|oM<|aQ<|cQ Z<|aA Z<|aM ?_;exact AK (wI .i64 (m+(1:Int))) () h SF Z
  refine fS ?_;exact jL () (()) h SF Z
 intro R b7 h;unfold Ab at h;refine aT<|aD Z<|aM<|aS ?_;cases h;exact kW Z
end Go.Proofs.YtmdlcmbplnhdnaaGreatDoor
section
set_option maxRecDepth 100000
namespace Go.Gx
open Go Go.Sx Go.Proofs Go.Proofs.YtmdlcmbplnhdnaaGreatDoor
noncomputable section
def adV (a:List GV) (H:GH):OR:=a1 a λb=>ob (Pj H b) λp0=>ob (gG 1000 p0) λr=>Rs r H
def adT (a:List GV) (H:GH):OR:=a2 a λb c=>ob (adC H b) λp0=>ob (Yw .i64 c) λp1=>ob (lV 1000 p0 p1) λr=>PK r H
def ZM (a:List GV) (H:GH):OR:=a4 a λb c d e=>ob (UZ H b) λp0=>ob (Yw .i64 c) λp1=>ob (Yw .u32 d) λp2=>ob (Yw .u32 e) λp3=>ob (fC 1000 p0 p1 p2 p3) λr=>Rs r H
def adU (a:List GV) (H:GH):OR:=a4 a λb c d e=>ob (UZ H b) λp0=>ob (Yw .i64 c) λp1=>ob (Yw .u32 d) λp2=>ob (Yw .u32 e) λp3=>ob (eD 1000 p0 p1 p2 p3) λr=>some (.int .u32 r,H)
def adS (a:List GV) (H:GH):OR:=a2 a λb c=>ob (Pj H b) λp0=>ob (ZK H c) λp1=>ob (lF 1000 p0 p1) λr=>Rs r H
def Vt (f:Nat) (a:List GV) (H:GH):Option (GV×GH):=bif Nat.beq f 86 then adV a H else bif Nat.beq f 26 then adT a H else bif Nat.beq f 112 then ZM a H else bif Nat.beq f 83 then adU a H else bif Nat.beq f 14 then adS a H else none
abbrev gl:Nat->xM:=glb 0 (cellsOf EI sU)
def gp:GP:=⟨uQ,72,Vt,Vs 190⟩
section
variable {T:Nat} {w0:dY (gl T)} {w:World} {ρ:dD} {H H':GH} {g:GV} {us:List GV} {vs:List Value}
theorem YR (h:adV us H=some (g,H')) (R:eT w0 ρ H w) (m:nN ρ us vs):jM Tryz.prog w0 ρ 86 vs w g H':=by
 obtain⟨p,rfl,h⟩:=Qr h;obtain⟨j,c,h⟩:=aB.1 h;obtain⟨r,l,h⟩:=aB.1 h;obtain⟨o,rfl,d⟩:=m.one;obtain⟨e,i,n,rfl,a,b⟩:=JY R d c;obtain⟨rfl,rfl⟩:=Ev h;exact BG Lg (xI 1000 (p0:=j) e i n r l) R (List.forall_mem_cons.2 ⟨a,List.forall_mem_cons.2 ⟨b,λf k=>absurd k List.not_mem_nil⟩⟩) λρ=> .bool _
theorem YP (h:adT us H=some (g,H')) (R:eT w0 ρ H w) (i:nN ρ us vs):jM Tryz.prog w0 ρ 26 vs w g H':=by
 obtain⟨z,A,rfl,h⟩:=KX h;obtain⟨o,d,h⟩:=aB.1 h;obtain⟨p,e,h⟩:=aB.1 h;obtain⟨r,v,h⟩:=aB.1 h;obtain⟨x,vs,rfl,j,i⟩:=i.of_cons;obtain⟨y,rfl,k⟩:=i.one;obtain⟨l,m,n,rfl,a,b,c⟩:=Yv R j d;obtain rfl:=CL k e;obtain⟨q,s,t,rfl,rfl⟩:=Nz h;exact Px adJ adK q s t UB (Af 1000 (p0:=o) (p1:=p) l m n r v) R (List.forall_mem_cons.2 ⟨a,List.forall_mem_cons.2 ⟨b,List.forall_mem_cons.2 ⟨c,λf u=>absurd u List.not_mem_nil⟩⟩⟩)
theorem VF (h:ZM us H=some (g,H')) (R:eT w0 ρ H w) (a:nN ρ us vs):jM Tryz.prog w0 ρ 112 vs w g H':=by
 obtain⟨z,A,B,C,rfl,h⟩:=KY h;obtain⟨m,b,h⟩:=aB.1 h;obtain⟨n,c,h⟩:=aB.1 h;obtain⟨o,d,h⟩:=aB.1 h;obtain⟨p,e,h⟩:=aB.1 h;obtain⟨r,u,h⟩:=aB.1 h;obtain⟨q,vs,rfl,i,a⟩:=a.of_cons;obtain⟨v,vs,rfl,j,a⟩:=a.of_cons;obtain⟨x,vs,rfl,k,a⟩:=a.of_cons;obtain⟨y,rfl,l⟩:=a.one;have s:=MZ R i b;obtain rfl:=CL j c;obtain rfl:=CL k d;obtain rfl:=CL l e;obtain⟨rfl,rfl⟩:=Ev h;exact BG QA (vZ 1000 (p0:=m) (p1:=n) (p2:=o) (p3:=p) q r u) R (List.forall_mem_cons.2 ⟨s,List.forall_mem_cons.2 ⟨R.glb,λf t=>absurd t List.not_mem_nil⟩⟩) λρ=> .bool _
theorem YQ (h:adU us H=some (g,H')) (R:eT w0 ρ H w) (a:nN ρ us vs):jM Tryz.prog w0 ρ 83 vs w g H':=by
 obtain⟨z,A,B,C,rfl,h⟩:=KY h;obtain⟨m,b,h⟩:=aB.1 h;obtain⟨n,c,h⟩:=aB.1 h;obtain⟨o,d,h⟩:=aB.1 h;obtain⟨p,e,h⟩:=aB.1 h;obtain⟨r,u,h⟩:=aB.1 h;obtain⟨q,vs,rfl,i,a⟩:=a.of_cons;obtain⟨v,vs,rfl,j,a⟩:=a.of_cons;obtain⟨x,vs,rfl,k,a⟩:=a.of_cons;obtain⟨y,rfl,l⟩:=a.one;have s:=MZ R i b;obtain rfl:=CL j c;obtain rfl:=CL k d;obtain rfl:=CL l e;cases h;exact BG UI (v_ 1000 (p0:=m) (p1:=n) (p2:=o) (p3:=p) q r u) R (List.forall_mem_cons.2 ⟨s,List.forall_mem_cons.2 ⟨R.glb,λf t=>absurd t List.not_mem_nil⟩⟩) λρ=> .int _ _
theorem YO (h:adS us H=some (g,H')) (R:eT w0 ρ H w) (e:nN ρ us vs):jM Tryz.prog w0 ρ 14 vs w g H':=by
 obtain⟨x,y,rfl,h⟩:=KX h;obtain⟨m,c,h⟩:=aB.1 h;obtain⟨n,d,h⟩:=aB.1 h;obtain⟨r,s,h⟩:=aB.1 h;obtain⟨v,vs,rfl,i,e⟩:=e.of_cons;obtain⟨o,rfl,j⟩:=e.one;obtain⟨k,l,t,rfl,a,b⟩:=JY R i c;obtain⟨u,p⟩:=UX R j d;obtain⟨rfl,rfl⟩:=Ev h;exact BG Uz (Ee 1000 (p0:=m) (p1:=n) k l t o u r s) R (List.forall_mem_cons.2 ⟨a,List.forall_mem_cons.2 ⟨b,List.forall_mem_cons.2 ⟨p,λf q=>absurd q List.not_mem_nil⟩⟩⟩) λρ=> .bool _
theorem Lt {f:Nat} (h:Vt f us H=some (g,H')) (R:eT w0 ρ H w) (a:nN ρ us vs):jM Tryz.prog w0 ρ f vs w g H':=by
 unfold Vt at h;cases b:Nat.beq f 86 with
 |true=>rw[b]at h;rw[Nat.eq_of_beq_eq_true b];exact YR h R a
 |false=>
 rw[b]at h;cases c:Nat.beq f 26 with
 |true=>rw[c]at h;rw[Nat.eq_of_beq_eq_true c];exact YP h R a
 |false=>
 rw[c]at h;cases d:Nat.beq f 112 with
 |true=>rw[d]at h;rw[Nat.eq_of_beq_eq_true d];exact VF h R a
 |false=>
 rw[d]at h;cases e:Nat.beq f 83 with
 |true=>rw[e]at h;rw[Nat.eq_of_beq_eq_true e];exact YQ h R a
 |false=>
 rw[e]at h;cases i:Nat.beq f 14 with
 |true=>rw[i]at h;rw[Nat.eq_of_beq_eq_true i];exact YO h R a
 |false=>
 rw[i]at h;cases h
end
theorem abn:adG Tryz.prog uQ=true:=by kernel_rfl
theorem HJ:eK Tryz.prog uQ:=⟨Ob,abm abn⟩
theorem abO {a:xM} (b:dY a):qF Tryz.prog b (JX uQ 98 Tryz.f98):=UN HJ mixedOrders Tryz.func98 Tryz.call98 (by kernel_rfl)
theorem abg (a:Array Value) (w:World) (c:a.size=2):CallsDIn (FR none) 0 Tryz.prog 97 a .returning w λe f g=>∃v,e = .returned v∧f = .returning∧KN w g:=by
 obtain⟨d,h,b⟩:=Wh (r:=DX uQ (JX uQ 98 Tryz.f98) (Lh Tryz.f97) (YC uQ (JX uQ 98 Tryz.f98) (λ_ _ _ _=>none) (UL Tryz.f97) 0 ⟨[],0,[]⟩ (Fu [])) (Lh Tryz.f97).tail ⟨[(Yt Tryz.f97,.inil)],H0⟩) (by kernel_rfl);exact SC (ch:=JX uQ 98 Tryz.f98) (lp:=λ_ _ _ _=>none) HJ mixedOrders abO GQ Tryz.func97 Z Z Z (by decide +kernel) (λi w=>by simp[execOp,resolve,invoke,builtin]) (by kernel_rfl) (by kernel_rfl) Z (by rw[c];decide +kernel) h b
theorem adL {i:xM} {a:FuncId->List GV->GH->Option (GV×GH)} (o:∀(b:dY i) {f us H g H'},a f us H=some (g,H')->∀c w d,eT b c H w->nN c us d->jM Tryz.prog b c f d w g H') (b:dY i):Sb Tryz.prog ⟨uQ,72,a,Vs 190⟩ Gs.fns b:=by
 refine⟨HJ,mixedOrders,λh=> ?_,o b,λh c w d H R n=>YJ Tryz.func190 Z Z Z Z h c w d H R n,λR l j k=> ?_⟩
 ·obtain⟨e,m,h⟩:=aB.1 (show ob (RE _) _=some _ from h);cases h;obtain⟨p,q,r⟩:=Wt m;exact⟨p,q,NA r⟩
 ·exact aaZ (tb:=uQ) (T1:=3) (T2:=67) (cc:=97) HJ Tryz.func72 Tryz.call72 Tryz.call97 Z Z Z (Qw (by kernel_rfl)) (Qw (by kernel_rfl)) (RJ Z Z) (RJ Z Z) (VT Z Z) (VT Z Z) abg R l j k
theorem Vv {T:Nat} (a:dY (gl T)):Sb Tryz.prog gp Gs.fns a:=adL (λa f d H g c h i w e R b=>Lt h R b) a
def gp0:GP:=⟨uQ,72,λ_ _ _=>none,Vs 190⟩
theorem agP (a:dY noG):Sb Tryz.prog gp0 Gs.fns a:=adL (λa f c H g b h=>by cases h) a
end
end Go.Gx
end
