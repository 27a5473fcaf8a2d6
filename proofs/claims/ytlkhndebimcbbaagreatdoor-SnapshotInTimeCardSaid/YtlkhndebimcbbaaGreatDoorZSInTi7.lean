/- Models and proofs. Conditions: none. -/
import Derived.Test.YtlkhndebimcbbaaGreatDoorZSInTi6
import Derived.Test.YtlkhndebimcbbaaGreatDoorZSInTi2
import Derived.Test.YtlkhndebimcbbaaGreatDoorZSInTi3
import Derived.Test.YtlkhndebimcbbaaGreatDoorZSInTi4
set_option linter.unusedVariables false
set_option linter.unusedSimpArgs false
set_option maxHeartbeats 4000000
set_option maxRecDepth 20000
namespace Go.Gx
open Go Go.Sx
noncomputable section
section
variable {α R:Type}
def a0 (a:List α) (k:Option R):Option R:=List.casesOn (motive:=λ_=>Option R) a k (λ_ _=>none)
def a1 (b:List α) (k:α->Option R):Option R:=List.casesOn (motive:=λ_=>Option R) b none λa r=>a0 r (k a)
def a2 (b:List α) (k:α->α->Option R):Option R:=List.casesOn (motive:=λ_=>Option R) b none λa r=>a1 r (k a)
def a3 (b:List α) (k:α->α->α->Option R):Option R:=List.casesOn (motive:=λ_=>Option R) b none λa r=>a2 r (k a)
def a4 (b:List α) (k:α->α->α->α->Option R):Option R:=List.casesOn (motive:=λ_=>Option R) b none λa r=>a3 r (k a)
def a5 (us:List α) (k:α->α->α->α->α->Option R):Option R:=List.casesOn (motive:=λ_=>Option R) us none λa r=>a4 r (k a)
def a6 (b:List α) (k:α->α->α->α->α->α->Option R):Option R:=List.casesOn (motive:=λ_=>Option R) b none λa r=>a5 r (k a)
theorem ZT {a:List α} {k:Option R} {r:R} (h:a0 a k=some r):a=[]∧k=some r:=by
 cases a with
 |nil=>exact⟨rfl,h⟩
 |cons _ _=>cases h
theorem S_ {a:List α} {k:α->Option R} {r:R} (h:a1 a k=some r):∃x,a=[x]∧k x=some r:=by
 cases a with
 |nil=>cases h
 |cons x a=>obtain⟨rfl,h⟩:=ZT h;exact⟨x,rfl,h⟩
theorem MK {a:List α} {k:α->α->Option R} {r:R} (h:a2 a k=some r):∃x y,a=[x,y]∧k x y=some r:=by
 cases a with
 |nil=>cases h
 |cons x a=>obtain⟨y,rfl,h⟩:=S_ h;exact⟨x,y,rfl,h⟩
theorem ZU {a:List α} {k:α->α->α->Option R} {r:R} (h:a3 a k=some r):∃x y z,a=[x,y,z]∧k x y z=some r:=by
 cases a with
 |nil=>cases h
 |cons x a=>obtain⟨y,z,rfl,h⟩:=MK h;exact⟨x,y,z,rfl,h⟩
theorem ML {a:List α} {k:α->α->α->α->Option R} {r:R} (h:a4 a k=some r):∃x y z u,a=[x,y,z,u]∧k x y z u=some r:=by
 cases a with
 |nil=>cases h
 |cons x a=>obtain⟨y,z,u,rfl,h⟩:=ZU h;exact⟨x,y,z,u,rfl,h⟩
theorem ZV {a:List α} {k:α->α->α->α->α->Option R} {r:R} (h:a5 a k=some r):∃x y z u v,a=[x,y,z,u,v]∧k x y z u v=some r:=by
 cases a with
 |nil=>cases h
 |cons x a=>obtain⟨y,z,u,v,rfl,h⟩:=ML h;exact⟨x,y,z,u,v,rfl,h⟩
theorem ZW {a:List α} {k:α->α->α->α->α->α->Option R} {r:R} (h:a6 a k=some r):∃x y z u v w,a=[x,y,z,u,v,w]∧k x y z u v w=some r:=by
 cases a with
 |nil=>cases h
 |cons x a=>obtain⟨y,z,u,v,w,rfl,h⟩:=ZV h;exact⟨x,y,z,u,v,w,rfl,h⟩
end
def dSc (k:IntKind) (v:GV):Option Int:=ob v.asI λp=>bif eqK p.1 k then some p.2 else none
def Xk (H:GH) (v:GV):Option (List Int):=MZ H 1 (dI .u32) v
def agw (H:GH) (v:GV):Option (Int×List Int×List Int×List Int×Bool×Bool):=ob v.asA λg=>a6 g λa b c d e f=>ob (dSc .i64 a) λn=>ob (LB H b) λx=>ob (LB H c) λy=>ob (LB H d) λz=>ob e.asB λp=>ob f.asB λq=>some (n,x,y,z,p,q)
def gI (n:Int):List GV:=[.int .i64 n]
def gP (p:Int×Int):List GV:=[.int .i64 p.1,.int .i64 p.2]
def fcI {R:Type} (l:List Int):(List Int->R)->R:=List.rec (motive:=λ_=>(List Int->R)->R) (λk=>k []) (λx _ a k=>fi x λx=>a λr=>k (x::r)) l
def fcP {R:Type} (l:List (Int×Int)):(List (Int×Int)->R)->R:=List.rec (motive:=λ_=>(List (Int×Int)->R)->R) (λk=>k []) (λx _ c k=>fi x.1 λa=>fi x.2 λb=>c λr=>k ((a,b)::r)) l
def fcR {R:Type} (l:List (List (Int×Int))):(List (List (Int×Int))->R)->R:=List.rec (motive:=λ_=>(List (List (Int×Int))->R)->R) (λk=>k []) (λx _ a k=>fcP x λx=>a λr=>k (x::r)) l
theorem Xy {R:Type}:∀(l:List Int) (k:List Int->R),fcI l k=k l
 | [],k=>rfl
 |x::l,k=>by
  show fi x (λx=>fcI l λr=>k (x::r))=_;rw[LJ,Xy l]
theorem Xz {R:Type}:∀(l:List (Int×Int)) (k:List (Int×Int)->R),fcP l k=k l
 | [],k=>rfl
 |x::l,k=>by
  show fi x.1 (λa=>fi x.2 λb=>fcP l λr=>k ((a,b)::r))=_;rw[LJ,LJ,Xz l]
theorem XA {R:Type}:∀(l:List (List (Int×Int))) (k:List (List (Int×Int))->R),fcR l k=k l
 | [],k=>rfl
 |x::l,k=>by
  show fcP x (λx=>fcR l λr=>k (x::r))=_;rw[Xz,XA l]
def TT (b:Bool) (H:GH):OR:=Bool.casesOn (motive:=λ_=>OR) b (some (.bool false,H)) (some (.bool true,H))
def Sb (r:List Int×List (List (Int×Int))) (H:GH):OR:=fcI r.1 λx=>fcR r.2 λy=>bif Nat.beq x.length 0 then none else bif Nat.beq y.length 0 then none else bif y.any λl=>Nat.beq l.length 0 then none else
 fc (x.flatMap gI) λl=>H.newK (.cells l) λh a=>fc (uS 2 gP y a).1 λd=>sn x.length λn=>sn y.length λm=>(uS 2 gP y a).2.newK (.cells d) λc b=>some (.agg [.sl h 0 n 1,.sl c 0 m 1],b)
end
section
variable {P:Program} {gs:y_} {w0:eL gs} {w:World} {ρ:dM} {H H':GH} {g:GV}
theorem oV.one {x:GV} {vs:List Value} (h:oV ρ [x] vs):∃V,vs=[V]∧Rl ρ x V:=by
 obtain⟨v,vs,rfl,a,b⟩:=h.of_cons;rw[b.of_nil];exact⟨v,rfl,a⟩
theorem DU {k:IntKind} {v:GV} {V:Value} {n:Int} (a:Rl ρ v V) (h:dSc k v=some n):V = .int k n:=by
 obtain⟨p,c,h⟩:=aD.1 (show ob v.asI _=some n from h);obtain⟨b,h⟩:=bN.1 h;cases h;rw[nO c]at a;rw[a.int_inv,Hu b]
theorem WH {v:GV} {V:Value} {b:Bool} (a:Rl ρ v V) (h:v.asB=some b):V = .bool b:=by
 rw[Bw h]at a;exact a.bool_inv
theorem OV (R:fJ w0 ρ H w) {v:GV} {V:Value} {a:List Int} (b:Rl ρ v V) (h:Xk H v=some a):(Sl (eJ.int .u32) V a).p w All:=by
 obtain⟨d,rfl,c⟩:=Cr R (λ_ _=>trivial) (iC.int .u32) b h;rw[List.map_id];exact c
theorem aaO (R:fJ w0 ρ H w) {v:GV} {V:Value} {p:Int×List Int×List Int×List Int×Bool×Bool} (l:Rl ρ v V) (h:agw H v=some p):
  ∃m o s,V = .agg #[.int .i64 p.1,m,o,s,.bool p.2.2.2.2.1,.bool p.2.2.2.2.2]∧(Sl (eJ.int .i64) m p.2.1).p w All∧(Sl (eJ.int .i64) o p.2.2.1).p w All∧(Sl (eJ.int .i64) s p.2.2.2.1).p w All:=by
 obtain⟨T,k,h⟩:=aD.1 (show ob v.asA _=some p from h);obtain⟨a,b,c,d,e,f,rfl,h⟩:=ZW h;obtain⟨n,I,h⟩:=aD.1 h;obtain⟨x,L,h⟩:=aD.1 h;obtain⟨y,M,h⟩:=aD.1 h;obtain⟨z,N,h⟩:=aD.1 h;obtain⟨q,J,h⟩:=aD.1 h;obtain⟨r,K,h⟩:=aD.1 h;cases h;rw[Jx k]at l;obtain⟨j,rfl,i,_⟩:=l.agg_inv;obtain⟨U,j,rfl,B,i⟩:=i.of_cons;obtain⟨O,j,rfl,C,i⟩:=i.of_cons;obtain⟨Q,j,rfl,D,i⟩:=i.of_cons;obtain⟨S,j,rfl,E,i⟩:=i.of_cons;obtain⟨W,j,rfl,F,i⟩:=i.of_cons;obtain⟨X,rfl,G⟩:=i.one;have t:=DU B I;have u:=WH F J;have A:=WH G K;subst t u A;exact⟨O,Q,S,rfl,Gl R C L,Gl R D M,Gl R E N⟩
theorem FH {b:Bool} (h:TT b H=some (g,H')):g = .bool b∧H'=H:=by
 cases b<;>cases h<;>exact⟨rfl,rfl⟩
theorem Pz {r:List Int×List (List (Int×Int))} (h:Sb r H=some (g,H')):r.1≠[]∧r.2≠[]∧(∀a∈r.2,a≠[])∧
  g = .agg [.sl H.n 0 r.1.length 1,.sl (uS 2 gP r.2 (H.new (.cells (r.1.flatMap gI)))).2.n 0 r.2.length 1]∧H'=(uS 2 gP r.2 (H.new (.cells (r.1.flatMap gI)))).2.new (.cells (uS 2 gP r.2 (H.new (.cells (r.1.flatMap gI)))).1):=by
 unfold Sb at h;rw[Xy,XA]at h;obtain⟨b,h⟩:=kT.1 h;obtain⟨c,h⟩:=kT.1 h;obtain⟨d,h⟩:=kT.1 h;rw[Tw,i_,Tw,vZ,vZ,i_]at h;cases h;refine⟨λe=>(by rw[e]at b;cases b),λe=>(by rw[e]at c;cases c),λa f e=>?_,rfl,rfl⟩
 have:=List.any_eq_false.1 d a f;rw[e]at this;exact this Z
theorem agB (ρ:dM) (x:Int):oV ρ (gI x) [.int .i64 x]:= .cons (.int _ _) .nil
theorem agC (ρ:dM) (x:Int×Int):oV ρ (gP x) [.int .i64 x.1,.int .i64 x.2]:= .cons (.int _ _) (.cons (.int _ _) .nil)
def glb (b:Nat) (a:List Value) (T:Nat):y_:=⟨[(b,.cells a.toArray T (0,0))],[]⟩
theorem XJ {b:Nat} {a:List Value} (w:World) (S:Nat->Prop) (h:∀h∈[Gb b a],h.p w S):∃T,HV (glb b a T) w λ_=>False:=by
 obtain⟨_,T,c⟩:=h _ (List.mem_singleton.2 Z);exact⟨T,λp d=>by obtain rfl:=List.mem_singleton.1 d;exact⟨c,id⟩⟩
theorem fJ.glb {b:Nat} {a:List Value} {T:Nat} {c:eL (glb b a T)} {w:World} {ρ:dM} {H:GH} (R:fJ c ρ H w):(Gb b a).p w All:=⟨trivial,T,(R.glo _ (List.mem_singleton.2 Z)).1⟩
theorem Nr {gs:Nat->y_} {f:Nat} {V:Value} {L:List bA} (q:∀w S,(∀h∈L,h.p w S)->∃T,HV (gs T) w λ_=>False) (r:aX P f) (y:∀ρ d,Rl ρ g d->d=V) (h:∀T (b:eL (gs T)),kI P b (λ_=>none) f [] b.w g H'):aY P f #[] L (λ_:Unit=>V) (λ_ l=>l) (λ_ l=>l):=by
 intro w0 o z;obtain⟨T,n⟩:=q w0 o z;rcases h T (.of w0 n)with⟨v,A,c,a,_⟩|⟨_,s⟩
 ·have x:=r #[] w0;rw[show([]:List Value).toArray = #[]from rfl]at a;rw[show(eL.of w0 n).w=w0 from rfl,x]at a;cases a
 refine s.mono ?_;rintro e A ⟨v,c,rfl,_,R,a⟩;exact⟨(),by rw[y _ _ a],R.ext,λ_ _=>False,⟨λi m u=>by simp at u,λi k h=>h.elim,λi j k h=>h.elim⟩,λf t=>by simp at t⟩
section
variable {tb:TB} {T:TypeId}
theorem Ta (h:BJ tb T=some [xP]) (H:GH):nP tb T H=some (.ptr H.n 0,H.new (.cells [xP])):=by
 unfold nP;rw[h];show H.newK (.cells [xP]) (λh H'=>some (GV.ptr h 0,H'))=_;rw[i_]
theorem Uh {t:Ty} (h:tb T=some t) (e:t.size=1) (H:GH) (k:Nat) (c:GV) (d:GH.cells H k=some [c]):nE tb T (.ptr k 0) xP H=some (.un,H.set k (.cells [xP])):=by
 show ob (H.cells k) (λb=>ob (tb T) λt=>bif Nat.beq 1 t.size then bif Nat.beq t.size 0 then none else ob (Gp [xP] 0 b) λa=>H.setK k (.cells a) λH'=>some (GV.un,H')else none)=_;rw[d,h];show(bif Nat.beq 1 t.size then bif Nat.beq t.size 0 then none else ob (Gp [xP] 0 [c]) λa=>H.setK k (.cells a) λH'=>some (GV.un,H')else none)=_;rw[e];show H.setK k (.cells [xP]) (λH'=>some (GV.un,H'))=_;rw[xV]
theorem Yf {t:Ty} (h:tb T=some t) (b:yA t.desc=false) (H:GH) (k:Nat) (c:GH.cells H k=some [xP]):uF tb T (.ptr k 0) H=some xP:=by
 show ob (H.cells k) (λa=>ob (tb T) λt=>Bo t a 0)=_;rw[c,h];show Bo t [xP] 0=_;unfold Bo;rw[b];rfl
end
def MW (a:Func):List Oper:=match a.body with
 |some (.seq (.region _ ops _) _)=>ops.toList
 |_=>[]
def WZ (a:Func):Code:=match a.body with
 |some (.seq _ c)=>c
 |_=> .skip
def aaK (a:Func):Nat:=match MW a with
 |o::_=>o.dst.getD 0
 | []=>0
def okN (r:RS):Bool:=match r with
 |some o=>match o.e with
  | .normal=>true
  |_=>false
 |none=>false
theorem Yt {r:RS} (h:okN r=true):∃a,r=some a∧a.e = .normal:=by
 unfold okN at h;cases r with
 |none=>cases h
 |some o=>
  refine⟨o,rfl,?_⟩
  cases b:o.e<;>simp only[b]at h<;>first|rfl|cases h
def okT (r:OR):Bool:=match r with
 |some (.bool true,_)=>true
 |_=>false
theorem Yu {r:OR} (h:okT r=true):∃H',r=some (.bool true,H'):=by
 unfold okT at h;split at h
 ·exact⟨_,rfl⟩
 ·cases h
end
end Go.Gx
namespace Go.Proofs.YtlkhndebimcbbaaGreatDoor
open Go.Sx
def jV (U:Nat) (a:Int):Option (Int):=
 if a=(0:Int)then(some (32:Int))else(ck (0<=(27:Int)) (ck ((0<=(r_ .u32 (wI .u32 ((dR .u32 a (wI .u32 (0 - a)))*(125613361:Int))) (27:Int))∧(r_ .u32 (wI .u32 ((dR .u32 a (wI .u32 (0 - a)))*(125613361:Int))) (27:Int))<((32:Nat):Int))∧List.length xM=32) (some (wI .i64 (at' xM (r_ .u32 (wI .u32 ((dR .u32 a (wI .u32 (0 - a)))*(125613361:Int))) (27:Int)))))))
theorem Ti:aX Tryz.prog 152:=Tryz.call152
theorem xK (U:Nat) {b:Int} (r:Int) (h:jV U b=some r):
  aY Tryz.prog 152 #[vU (b)] [Gb 0 (cellsOf HU xM)] (λx:Unit=>vI (r)) (λx l=>l) (λ_ l=>l):=by
 refine aY.of Tryz.func152 Z Tryz.ntmps152 Z λc=>?_;refine aV<|aE Z<|aM<|aK<|aV<|aA Z<|cP Z<|aM ?_;refine eV h Z (λh=>?_) λh=>?_
 ·refine aV<|aE Z<|aM<|aW<|aJ ?_;cases h;exact lA Z
 refine cK<|aV<|aA Z<|aA Z<|aB (SZ Z) Z<|Ab Z<|aB (AD Z Z) Z<|cX h λd h=>aB (Lt Z Z d) Z<|cX h λa h=>aB (OC Z Z Z Z Z a.1) Z<|aB (UK (e:=HU) Z (aF.fact 0 Z) Z Z Z Z a) Z<|aB (QY Z Z Z) Z<|aE Z<|aM<|aW ?_;cases h;exact lA Z
def jP  (a:Unit):Option (Bool):=
 some (true)
def gK (U:Nat) (d:aQ) (e:Int) (a:Int) (c:(Int)->Option (Bool)):Option (Bool):=
 if a≠(0:Int)then(Option.bind (jV U a) λb=>(ck (0<=b∧b<(List.length d:Int)) (if(dR .u32 (at' d b) e)≠(0:Int)then(some (false))else(c (dR .u32 a (wI .u32 (a - (1:Int))))))))else(jP  (()))
def lZ (U:Nat) (c:aQ) (a:Int) (b:Unit):Option (Bool):=
 bJ (gK U c a) U (a)
def gX (U:Nat) (a:aQ) (b:Int):Option (Bool):=
 lZ U a b (())
theorem aas:aX Tryz.prog 146:=Tryz.call146
theorem AP (U:Nat) {m:aQ} {e:Int} (j:Value) (r:Bool) (h:gX U m e=some r):
  aY Tryz.prog 146 #[j,vU (e)] [Sl Ai j m,Gb 0 (cellsOf HU xM)] (λx:Unit=>vB (r)) (λx l=>l) (λ_ l=>l):=by
 refine aY.of Tryz.func146 Z Tryz.ntmps146 Z λc=>?_;unfold gX at h;refine jD Ow<|aV<|cG (Know.one ((aF.fact 0 Z))) λw=>?_;refine aH (aN.box (cs:=[j]) Z (by rw[eN w])) Z λC=>?_;refine aH (aN.box (cs:=[vU (e)]) Z Z) Z λD=>aH (aN.alloc (cs:=[vB (false)]) Z Z) Z λu=>aM<|aK<|QO (A:=Unit) (B:=oH) (λk g=>⟨16,Kd g⟩) (λk=>jP  k=some r) (λk g=>[(4,vP u)]) (λk g=>[bV u [vB (false)] 4,MA g]) (λk g=>[Sl Ai j m,Gb 0 (cellsOf HU xM)]) ?_ ?_
 ·refine aV<|dD 1 Z<|Bt (A:=Unit) (B:=Nat) (vs:=[vU (e)]) (λb=>lZ U m e b=some r) (λb a=>Value.func (.func 151) #[] #[vP a]) (λb a=>[bV a [vU (e)] 45,bV u [vB (false)] 4,bV D [vU (e)] 45,bV C [j] 89,MA ([]:oH)]) (λb a=>[Sl Ai j m,Gb 0 (cellsOf HU xM)]) (tG.fn (show aX Tryz.prog 113 from Tryz.call113) Z) Tryz.func113 Z Tryz.ntmps113 Z Z ?_ ?_
  ·refine aV<|aH (aN.box (cs:=[vU (e)]) Z Z) Z λo=>aE Z<|aM<|aV<|aB (x_ (cs:=[.tmp 1]) (vs:=[vP o]) Z) Z<|aE Z<|aM<|aW ?_;exact tJ () (o) h (.inl Z) (Hb.r1 Z (RV.tmp Z)) Z (a_.refl _) (aG.refl _ _)
  intro b a h;unfold lZ at h;refine aM<|aS<|FX (i:=4) (cs:=[vP a]) ([]:oH) Z (show aX Tryz.prog 151 from Tryz.call151) Z Tryz.func151 Z Tryz.ntmps151 Z λs f v p=>aS<|dU (gK U m e) (λd n=>[(0,xN s),(1,vP a)]) (λd n=>[Lp s v LoopState.ready none,bV a [vU (d)] 45,bV u [vB (false)] 4,bV D [vU (e)] 45,bV C [j] 89,MA (List.cons f ([]:oH))]) (e) () h SF (a_.refl _) ?_;intro E d n h;refine aK<|aV<|dD 1 Z<|q_ Z<|aM ?_;refine eV h Z (λh=>?_) λh=>?_
  ·refine cK<|aK<|aS<|aV<|aA Z<|dD 1 Z<|fH h λt y h=>aH (aN.callQ Ti (xK U  t y) Z (oS [1] Z)) Z λF=>Oa (us:=[vI (t)]) (i:=0) p Z Z Z Z Z Z<|aR<|aE Z<|aM<|SP (i:=0) Z<|aS<|aK ?_;refine JR.start [0,0,3,7,0,31,63] 5 mixedOrders (by decide +kernel) ?_;refine JR.open (by exact rfl) ?_;refine jR 4 Z<|bG Z<|cX h λq h=>bK Z .nil (kA 0 Z) (aZ Z Z (aF.fact 0 Z) Z Z q) aO.z<|bK Z .nil (kA 0 Z) (bQ Z (aF.fact 0 Z) Z Z Z Hm q) aO.z<|jR 3 Z<|bP 5 Z Z<|Ab Z<|q_ Z<|aM ?_;refine eV h Z (λh=>?_) λh=>?_
   ·refine aV<|iI 2 Z Z Z Z Z Z<|aM<|aW<|bM<|We (i:=0) Z<|aB (oQ Z) Z<|aM<|SQ Z<|aW<|bM<|aJ<|aJ<|bM<|ZH (i:=0) (.inl Z) Z (Hb.r0 Z)<|bM<|aJ<|rW (i:=5) (Ds:=(List.cons f ([]:oH))) (.inl Z) Z ?_;cases h;exact gH () Z Z (On 2 Z Z Z Z) .nil aG.nil
   refine dK<|V_<|Jj (i:=0) Z<|aB (oQ Z) Z<|aM<|IG Z<|dK<|mA<|aR<|dD 1 Z<|dD 1 Z<|aB (oK Z Z) Z<|Ab Z<|iI 1 Z Z Z Z Z Z<|aM ?_;exact xT (dR .u32 d (wI .u32 (d - (1:Int)))) () h SF Z
  refine pH<|dV<|dV<|vM<|Wd (i:=0) (.inr Z) Z (Hb.r0 Z)<|mA ?_;exact II () (List.cons f ([]:oH)) Z h SF (a_.ix [2,5] Z Z) (aG.refl _ _)
 intro k g h;unfold jP at h;refine aV<|iI 0 Z Z Z Z Z Z<|aM<|aW<|rW (i:=1) (Ds:=(g)) (.inl Z) Z ?_;cases h;exact gH () Z Z (On 0 Z Z Z Z) .nil aG.nil
def lQ (U:Nat) (d:aQ) (b:Int) (e:Int) (a:Int) (c:Bool):Option (Bool):=
 if c=true then(some (false))else(if b=(1:Int)then(some (decide ((dR .u32 a (wI .u32 (a - (1:Int))))=(0:Int))))else(if b=(2:Int)then(Option.bind (gX U d a) λf=>(some (f)))else(if b=(4:Int)then(some (decide (a=e)))else(some (true)))))
def fR (U:Nat) (c:aQ) (d:Int) (b:Int) (a:Int):Option (Bool):=
 if a=(0:Int)then(lQ U c d b a (true))else(lQ U c d b a (decide ((uK .u32 a b)≠(0:Int))))
theorem Td:aX Tryz.prog 110:=Tryz.call110
theorem xI (U:Nat) {p0:aQ} {p1:Int} {p2:Int} {p3:Int} (b:Value) (r:Bool) (h:fR U p0 p1 p2 p3=some r):
  aY Tryz.prog 110 #[b,vI (p1),vU (p2),vU (p3)] [Sl Ai b p0,Gb 0 (cellsOf HU xM)] (λx:Unit=>vB (r)) (λx l=>l) (λ_ l=>l):=by
 refine aY.of Tryz.func110 Z Tryz.ntmps110 Z λc=>?_;refine aV<|aE Z<|aM<|aK<|aK<|dO (λa=>lQ U p0 p1 p2 p3 a=some r) (λa d=>[(0,b),(1,vI (p1)),(2,vU (p2)),(3,vU (p3)),(16,vB (a))]) (λa d=>[]) ?_ ?_
 ·refine aR<|aA Z<|cP Z<|aA Z ?_;refine Dv h Z (λ_ h=>?_) λ_ h=>?_
  ·refine aI Z<|aI Z<|aI Z<|aI Z<|dW Z<|aM ?_;exact iB (true) () h SF Z
  refine cS Z<|cS Z<|aP Z (Ju Z Z) Z<|aP Z (Df Z Z) Z<|fO Z<|aM ?_;exact iB (decide ((uK .u32 p3 p2)≠(0:Int))) () h SF Z
 intro a d h;refine AZ h Z (λ_ h=>?_) λ_ h=>?_
 ·refine aV<|aE Z<|aM<|aW<|aJ ?_;cases h;exact lA Z
 refine cK<|aK<|aV<|aA Z<|aM<|aS<|aV<|cP Z<|aE Z<|aM ?_;refine eV h Z (λh=>?_) λh=>?_
 ·refine aV<|aA Z<|aA Z<|aB (oK Z Z) Z<|Ab Z<|cP Z<|aE Z<|aM<|aW<|bM<|aJ ?_;cases h;exact lA Z
 refine aV<|cP Z<|aE Z<|aM ?_;refine eV h Z (λh=>?_) λh=>?_
 ·refine aV<|aA Z<|aA Z<|fH h λe f h=>aH (aN.callQ aas (AP U b e f) Z (oS [0,1] Z)) Z λg=>aE Z<|aM<|aW<|bM<|aJ ?_;cases h;exact lA Z
 refine aV<|cP Z<|aE Z<|aM ?_;refine eV h Z (λh=>?_) λh=>?_
 ·refine aV<|aA Z<|aA Z<|cP Z<|aE Z<|aM<|aW<|bM<|aJ ?_;cases h;exact lA Z
 refine dK<|mA<|aV<|aE Z<|aM<|aW ?_;cases h;exact lA Z
def lR  (a:Int):Option (Int):=
 some (a)
def jF (a:fP) (b:iZ->Option (Int)) (c:Int):Option (Int):=
 b ((dR .u32 a.1 (wI .u32 (a.1 - (1:Int)))),c)
def d_ (U:Nat) (d:aQ) (a:fP) (c:iZ->Option (Int)):Option (Int):=
 if a.1≠(0:Int)then(Option.bind (jV U a.1) λb=>(ck (0<=b∧b<(List.length d:Int)) (if(dR .u32 (at' d b) a.2)=(0:Int)then(ck (0<=b) (jF a c (MQ .u32 a.2 (Cn .u32 (1:Int) b))))else(jF a c (a.2)))))else(lR  (a.2))
def pJ (U:Nat) (c:aQ) (b:Int) (a:Unit):Option (Int):=
 bJ (d_ U c) U (b,(0:Int))
def jE (U:Nat) (c:aQ) (b:Int) (d:Int) (a:Int):Option (Int):=
 if b=(1:Int)then(some (dR .u32 a (wI .u32 (0 - a))))else(if b=(2:Int)then(pJ U c a (()))else(if b=(4:Int)then(some (d))else(some (a))))
def eS (U:Nat) (b:aQ) (c:Int) (a:Int) (d:Int):Option (Int):=
 if(dR .u32 d a)=(0:Int)then(jE U b c a (dR .u32 a (wI .u32 (0 - a))))else(jE U b c a (dR .u32 d a))
theorem WX:aX Tryz.prog 80:=Tryz.call80
theorem xJ (U:Nat) {p0:aQ} {p1:Int} {p2:Int} {p3:Int} (k:Value) (r:Int) (h:eS U p0 p1 p2 p3=some r):
  aY Tryz.prog 80 #[k,vI (p1),vU (p2),vU (p3)] [Sl Ai k p0,Gb 0 (cellsOf HU xM)] (λx:Unit=>vU (r)) (λx l=>l) (λ_ l=>l):=by
 refine aY.of Tryz.func80 Z Tryz.ntmps80 Z λc=>?_;refine jD Ow<|aV<|cG (Know.one ((aF.fact 0 Z))) λD=>?_;refine aH (aN.box (cs:=[k]) Z (by rw[eN D])) Z λq=>?_;refine aE Z<|aM<|aV<|aA Z<|aA Z<|Ab Z<|aE Z<|aM<|aK<|QO (A:=Int) (B:=Unit) (λg C=>⟨48,Kd ([]:oH)⟩) (λg=>jE U p0 p1 p2 g=some r) (λg C=>[(1,vI (p1)),(2,vU (p2)),(3,vU (g)),(4,vP q),(8,vU (0:Int))]) (λg C=>[bV q [k] 89,MA ([]:oH)]) (λg C=>[Sl Ai k p0,Gb 0 (cellsOf HU xM)]) ?_ ?_
 ·refine aV<|aA Z<|cP Z<|aM ?_;refine eV h Z (λh=>?_) λh=>?_
  ·refine aR<|aA Z<|aA Z<|aB (SZ Z) Z<|Ab Z<|aE Z<|aM ?_;exact II (dR .u32 p2 (wI .u32 (0 - p2))) () Z h SF (a_.refl _) (aG.refl _ _)
  refine cK ?_;exact II (dR .u32 p3 p2) () Z h SF (a_.refl _) (aG.refl _ _)
 intro g C h;refine aK<|aV<|aA Z<|aM<|aS<|aV<|cP Z<|aE Z<|aM ?_;refine eV h Z (λh=>?_) λh=>?_
 ·refine aV<|aA Z<|aA Z<|aB (SZ Z) Z<|Ab Z<|aE Z<|aM<|aW<|bM<|aJ<|rW (i:=1) (Ds:=([]:oH)) (.inl Z) Z ?_;cases h;exact tU Z
 refine aV<|cP Z<|aE Z<|aM ?_;refine eV h Z (λh=>?_) λh=>?_
 ·refine aV<|aH (aN.alloc (cs:=[vU (0:Int)]) Z Z) Z λv=>iI 0 Z Z Z Z Z Z<|aM<|aK<|QO (A:=Int) (B:=oH) (λd e=>⟨48,Kd e⟩) (λd=>lR  d=some r) (λd e=>[(9,vP v)]) (λd e=>[bV v [vU (d)] 45,MA e]) (λd e=>[Sl Ai k p0,Gb 0 (cellsOf HU xM)]) ?_ ?_
  ·refine aV<|aA Z<|Bt (A:=Unit) (B:=Nat) (vs:=[vU (g)]) (λj=>pJ U p0 g j=some r) (λj b=>Value.func (.func 151) #[] #[vP b]) (λj b=>[bV b [vU (g)] 45,bV v [vU (0:Int)] 45,bV q [k] 89,MA ([]:oH)]) (λj b=>[Sl Ai k p0,Gb 0 (cellsOf HU xM)]) (tG.fn (show aX Tryz.prog 113 from Tryz.call113) Z) Tryz.func113 Z Tryz.ntmps113 Z Z ?_ ?_
   ·refine aV<|aH (aN.box (cs:=[vU (g)]) Z Z) Z λu=>aE Z<|aM<|aV<|aB (x_ (cs:=[.tmp 1]) (vs:=[vP u]) Z) Z<|aE Z<|aM<|aW ?_;exact tJ () (u) h (.inl Z) (Hb.r1 Z (RV.tmp Z)) Z (a_.refl _) (aG.refl _ _)
   intro j b h;unfold pJ at h;refine aM<|aS<|FX (i:=3) (cs:=[vP b]) ([]:oH) Z (show aX Tryz.prog 151 from Tryz.call151) Z Tryz.func151 Z Tryz.ntmps151 Z λm n p w=>aS<|dU (d_ U p0) (λa s=>[(0,xN m),(1,vP b)]) (λa s=>[Lp m p LoopState.ready none,bV b [vU (a.1)] 45,bV v [vU (a.2)] 45,bV q [k] 89,MA (List.cons n ([]:oH))]) (g,(0:Int)) () h SF (a_.refl _) ?_;intro F a s h;refine aK<|aV<|dD 1 Z<|q_ Z<|aM ?_;refine eV h Z (λh=>?_) λh=>?_
   ·refine cK<|aK<|dO (λf=>jF a (bJ (d_ U p0) F) f=some r) (λf t=>[(0,xN m),(1,vP b)]) (λf t=>[Lp m p LoopState.ready none,bV b [vU (a.1)] 45,bV v [vU (f)] 45,bV q [k] 89,MA (List.cons n ([]:oH))]) ?_ ?_
    ·refine aS<|aV<|aA Z<|dD 1 Z<|fH h λo G h=>aH (aN.callQ Ti (xK U  o G) Z (oS [1] Z)) Z λH=>Oa (us:=[vI (o)]) (i:=0) w Z Z Z Z Z Z<|aR<|aE Z<|aM<|SP (i:=0) Z<|aS<|aK ?_;refine JR.start [0,0,3,7,0,31,63] 5 mixedOrders (by decide +kernel) ?_;refine JR.open (by exact rfl) ?_;refine jR 3 Z<|bG Z<|cX h λy h=>bK Z .nil (kA 0 Z) (aZ Z Z (aF.fact 0 Z) Z Z y) aO.z<|bK Z .nil (kA 0 Z) (bQ Z (aF.fact 0 Z) Z Z Z Hm y) aO.z<|jR 2 Z<|bP 5 Z Z<|Ab Z<|cP Z<|aM ?_;refine eV h Z (λh=>?_) λh=>?_
     ·refine JR.start [0,0,2,7,15] 3 mixedOrders (by decide +kernel) ?_;refine JR.open (by exact rfl) ?_;refine jR 2 Z<|bG Z<|cX h λE h=>jS Z (OG Z Z E)<|bP 3 Z Z<|aB (ZQ Z Z) Z<|iI 2 Z Z Z Z Z Z<|eI<|V_<|Jj (i:=0) Z<|aB (oQ Z) Z<|aM<|IG Z<|dK<|mA ?_;exact iB (MQ .u32 a.2 (Cn .u32 (1:Int) o)) () h SF Z
     refine dK<|V_<|Jj (i:=0) Z<|aB (oQ Z) Z<|aM<|IG Z<|dK<|mA ?_;exact iB (a.2) () h SF Z
    intro f t h;unfold jF at h;refine aR<|dD 1 Z<|dD 1 Z<|aB (oK Z Z) Z<|Ab Z<|iI 1 Z Z Z Z Z Z<|aM ?_;exact xT ((dR .u32 a.1 (wI .u32 (a.1 - (1:Int)))),f) () h SF Z
   refine pH<|dV<|dV<|vM<|Wd (i:=0) (.inr Z) Z (Hb.r0 Z)<|mA ?_;exact II (a.2) (List.cons n ([]:oH)) Z h SF (a_.ix [2,4] Z Z) (aG.refl _ _)
  intro d e h;unfold lR at h;refine aV<|dD 0 Z<|aE Z<|aM<|aW<|bM<|aJ<|rW (i:=1) (Ds:=(e)) (.inl Z) Z ?_;cases h;exact tU Z
 refine aV<|cP Z<|aE Z<|aM ?_;refine eV h Z (λh=>?_) λh=>?_
 ·refine aV<|aA Z<|aE Z<|aM<|aW<|bM<|aJ<|rW (i:=1) (Ds:=([]:oH)) (.inl Z) Z ?_;cases h;exact tU Z
 refine dK<|mA<|aV<|aA Z<|aE Z<|aM<|aW<|rW (i:=1) (Ds:=([]:oH)) (.inl Z) Z ?_;cases h;exact tU Z
def AM (U:Nat) (a:cE):Option (Bool):=
 Option.bind (eT U ((a.1,a.2))) λb=>(some (b))
theorem adi:aX Tryz.prog 35:=Tryz.call35
theorem KH (U:Nat) {d:cE} (a:Value)  (b:Value)  (e:k_) (r:Bool) (h:AM U d=some r):
  aY Tryz.prog 35 #[Value.agg #[a,b]] [Sl bO a d.1,S2 bB b e d.2] (λx:Unit=>vB (r)) (λx l=>l) (λ_ l=>l):=by
 refine aY.of Tryz.func35 Z Tryz.ntmps35 Z λc=>?_;refine aV<|aH (aN.box (cs:=[a,b]) Z Z) Z λi=>aE Z<|aM<|aV<|eK 0 Z<|fH h λf g h=>aH (aN.callQ Rj (xL U a b e f g) Z (oS [0,1] Z)) Z λj=>aE Z<|aM<|aW ?_;cases h;exact tU Z
def iJ  (a:Bool):Option (Bool):=
 some (a)
def iW (U:Nat) (a:cE) (c:bF):Option (Bool):=
 Option.bind (AM U ((a.1,a.2))) λd=>(if d=true then(Option.bind (dN U ((a.1,a.2)) c ([(List.length a.1:Int),(-1:Int),(1:Int),(1:Int),(15:Int),(wI .i64 ((15:Int)*(List.length a.1:Int)))])) λb=>(iJ  (b)))else(iJ  (false)))
theorem adf:aX Tryz.prog 31:=Tryz.call31
theorem BE (U:Nat) {a:cE} {o:bF} (g:Value)  (i:Value)  (m:k_)  (j:Value)  (p:rB) (r:Bool) (h:iW U a o=some r):
  aY Tryz.prog 31 #[Value.agg #[g,i],j] [Sl bO g a.1,S2 bB i m a.2,S2 bO j p o] (λx:Unit=>vB (r)) (λx l=>l) (λ_ l=>l):=by
 refine aY.of Tryz.func31 Z Tryz.ntmps31 Z λc=>?_;refine aV<|aH (aN.box (cs:=[g,i]) Z Z) Z λv=>aE Z<|aM<|aK<|dO (λd=>iJ  d=some r) (λd n=>[(4,vB (d))]) (λd n=>[]) ?_ ?_
 ·refine aR<|eK 0 Z<|fH h λq t h=>aH (aN.callQ adi (KH U g i m q t) Z (oS [0,1] Z)) Z λw=>aA Z ?_;refine wG (by exact rfl) (by exact rfl) (λb=>?_) (λb=>?_)
  ·have h:=LP b h;refine aP Z (iN 0 Z Z Z Z) Z<|cS Z<|aP Z (dC Z Z Z Z Z) Z<|aP Z (eH 0 Z Z Z Z Z) Z<|aP Z (fX Z (aF.fact 0 Z) Z) Z<|aP Z (dC Z Z Z Z Z) Z<|aP Z (eH 0 Z Z Z Z Z) Z<|aP Z (fX Z (aF.fact 0 Z) Z) Z<|aP Z (AD Z Z) Z<|nF Z (bY (e:=bZ) ([(List.length a.1:Int),(-1:Int),(1:Int),(1:Int),(15:Int),(wI .i64 ((15:Int)*(List.length a.1:Int)))]) [(0,vI (List.length a.1:Int)),(1,vI (-1:Int)),(2,vI (1:Int)),(3,vI (1:Int)),(4,vI (15:Int)),(5,vI (wI .i64 ((15:Int)*(List.length a.1:Int))))] Z Z Z Z (XE (vI (List.length a.1:Int)) (vI (-1:Int)) (vI (1:Int)) (vI (1:Int)) (vI (15:Int)) (vI (wI .i64 ((15:Int)*(List.length a.1:Int)))) Z Z Z Z Z Z) Z Z Z) Z λs=>fH h λf k h=>nF Z (aN.callQ Ri (tV U g i m j p s f k) Z (aG.cons (aF.fact 0 Z) (aG.cons (aF.fact 1 Z) (aG.cons (aF.fact 2 Z) (aG.cons (bD (aF.res 0 Z) dJ) .nil))))) Z λu=>dW Z<|aE Z<|aM ?_;exact cC (f) () h SF .nil (aG.refl _ _)
  have h:=Gr b h;refine aI Z<|aI Z<|aI Z<|aI Z<|aI Z<|aI Z<|aI Z<|aI Z<|aI Z<|aI Z<|aI Z<|fO Z<|aE Z<|aM ?_;exact cC (false) () h SF .nil (aG.refl _ _)
 intro d n h;unfold iJ at h;refine aW ?_;cases h;exact lA Z
def FG (U:Nat) (a:cE):Option (Bool):=
 Option.bind (eT U ((a.1,a.2))) λb=>(some (b))
theorem adA:aX Tryz.prog 83:=Tryz.call83
theorem Sy (U:Nat) {d:cE} (a:Value)  (b:Value)  (e:k_) (r:Bool) (h:FG U d=some r):
  aY Tryz.prog 83 #[Value.agg #[a,b]] [Sl bO a d.1,S2 bB b e d.2] (λx:Unit=>vB (r)) (λx l=>l) (λ_ l=>l):=by
 refine aY.of Tryz.func83 Z Tryz.ntmps83 Z λc=>?_;refine aV<|aH (aN.box (cs:=[a,b]) Z Z) Z λi=>aE Z<|aM<|aV<|eK 0 Z<|fH h λf g h=>aH (aN.callQ Rj (xL U a b e f g) Z (oS [0,1] Z)) Z λj=>aE Z<|aM<|aW ?_;cases h;exact tU Z
def kR  (a:Bool):Option (Bool):=
 some (a)
def sK (U:Nat) (a:cE) (c:bF):Option (Bool):=
 Option.bind (FG U ((a.1,a.2))) λd=>(if d=true then(Option.bind (dN U ((a.1,a.2)) c ([(List.length a.1:Int),(-1:Int),(1:Int),(1:Int)])) λb=>(kR  (b)))else(kR  (false)))
theorem adn:aX Tryz.prog 55:=Tryz.call55
theorem En (U:Nat) {b:cE} {o:bF} (g:Value)  (i:Value)  (m:k_)  (j:Value)  (p:rB) (r:Bool) (h:sK U b o=some r):
  aY Tryz.prog 55 #[Value.agg #[g,i],j] [Sl bO g b.1,S2 bB i m b.2,S2 bO j p o] (λx:Unit=>vB (r)) (λx l=>l) (λ_ l=>l):=by
 refine aY.of Tryz.func55 Z Tryz.ntmps55 Z λc=>?_;refine aV<|aH (aN.box (cs:=[g,i]) Z Z) Z λv=>aE Z<|aM<|aK<|dO (λd=>kR  d=some r) (λd n=>[(4,vB (d))]) (λd n=>[]) ?_ ?_
 ·refine aR<|eK 0 Z<|fH h λq t h=>aH (aN.callQ adA (Sy U g i m q t) Z (oS [0,1] Z)) Z λw=>aA Z ?_;refine wG (by exact rfl) (by exact rfl) (λa=>?_) (λa=>?_)
  ·have h:=LP a h;refine aP Z (iN 0 Z Z Z Z) Z<|cS Z<|aP Z (dC Z Z Z Z Z) Z<|aP Z (eH 0 Z Z Z Z Z) Z<|aP Z (fX Z (aF.fact 0 Z) Z) Z<|nF Z (bY (e:=bZ) ([(List.length b.1:Int),(-1:Int),(1:Int),(1:Int)]) [(0,vI (List.length b.1:Int)),(1,vI (-1:Int)),(2,vI (1:Int)),(3,vI (1:Int))] Z Z Z Z (XD (vI (List.length b.1:Int)) (vI (-1:Int)) (vI (1:Int)) (vI (1:Int)) Z Z Z Z) Z Z Z) Z λs=>fH h λf k h=>nF Z (aN.callQ Ri (tV U g i m j p s f k) Z (aG.cons (aF.fact 0 Z) (aG.cons (aF.fact 1 Z) (aG.cons (aF.fact 2 Z) (aG.cons (bD (aF.res 0 Z) dJ) .nil))))) Z λu=>dW Z<|aE Z<|aM ?_;exact cC (f) () h SF .nil (aG.refl _ _)
  have h:=Gr a h;refine aI Z<|aI Z<|aI Z<|aI Z<|aI Z<|aI Z<|aI Z<|fO Z<|aE Z<|aM ?_;exact cC (false) () h SF .nil (aG.refl _ _)
 intro d n h;unfold kR at h;refine aW ?_;cases h;exact lA Z
def lJ  (a:Bool):Option (Bool):=
 some (a)
def pB (U:Nat) (a:cE) (c:bF):Option (Bool):=
 Option.bind (HA U ((a.1,a.2))) λd=>(if d=true then(Option.bind (dN U ((a.1,a.2)) c ([(List.length a.1:Int),(-1:Int)])) λb=>(lJ  (b)))else(lJ  (false)))
theorem adB:aX Tryz.prog 84:=Tryz.call84
theorem EV (U:Nat) {b:cE} {o:bF} (g:Value)  (i:Value)  (m:k_)  (j:Value)  (p:rB) (r:Bool) (h:pB U b o=some r):
  aY Tryz.prog 84 #[Value.agg #[g,i],j] [Sl bO g b.1,S2 bB i m b.2,S2 bO j p o] (λx:Unit=>vB (r)) (λx l=>l) (λ_ l=>l):=by
 refine aY.of Tryz.func84 Z Tryz.ntmps84 Z λc=>?_;refine aV<|aH (aN.box (cs:=[g,i]) Z Z) Z λv=>aE Z<|aM<|aK<|dO (λd=>lJ  d=some r) (λd n=>[(4,vB (d))]) (λd n=>[]) ?_ ?_
 ·refine aR<|eK 0 Z<|fH h λq t h=>aH (aN.callQ aai (VE U g i m q t) Z (oS [0,1] Z)) Z λw=>aA Z ?_;refine wG (by exact rfl) (by exact rfl) (λa=>?_) (λa=>?_)
  ·have h:=LP a h;refine aP Z (iN 0 Z Z Z Z) Z<|cS Z<|aP Z (dC Z Z Z Z Z) Z<|aP Z (eH 0 Z Z Z Z Z) Z<|aP Z (fX Z (aF.fact 0 Z) Z) Z<|nF Z (bY (e:=bZ) ([(List.length b.1:Int),(-1:Int)]) [(0,vI (List.length b.1:Int)),(1,vI (-1:Int))] Z Z Z Z (JP (vI (List.length b.1:Int)) (vI (-1:Int)) Z Z) Z Z Z) Z λs=>fH h λf k h=>nF Z (aN.callQ Ri (tV U g i m j p s f k) Z (aG.cons (aF.fact 0 Z) (aG.cons (aF.fact 1 Z) (aG.cons (aF.fact 2 Z) (aG.cons (bD (aF.res 0 Z) dJ) .nil))))) Z λu=>dW Z<|aE Z<|aM ?_;exact cC (f) () h SF .nil (aG.refl _ _)
  have h:=Gr a h;refine aI Z<|aI Z<|aI Z<|aI Z<|aI Z<|aI Z<|aI Z<|fO Z<|aE Z<|aM ?_;exact cC (false) () h SF .nil (aG.refl _ _)
 intro d n h;unfold lJ at h;refine aW ?_;cases h;exact lA Z
def yO (U:Nat) (b:fP) (a:aQ) (c:Int):Option (Bool):=
 ck (0<=b.1∧b.1<(List.length a:Int)) (ck (0<=c∧c<(List.length a:Int)) (some (decide ((at' a b.1)=(wI .i64 ((at' a c) - (1:Int)))))))
theorem aaj:aX Tryz.prog 116:=Tryz.call116
theorem La (U:Nat) {d:fP} {g:aQ} {i:Int} (a:Nat)  (j:Value)  (b:Nat) (r:Bool) (h:yO U d g i=some r):
  aY Tryz.prog 116 #[Value.agg #[vI (d.1),vI (d.2)],vP a,vP b] [bV a [j] 22,Sl bO j g,bV b [vI (i)] 3] (λx:Unit=>vB (r)) (λx l=>l) (λ_ l=>l):=by
 refine aY.of Tryz.func116 Z Tryz.ntmps116 Z λc=>?_;refine aV<|aH (aN.box (cs:=[vI (d.1),vI (d.2)]) Z Z) Z λk=>aE Z<|aM<|aK ?_;refine JR.start [0,0,2,7,15,0,0,96,224,480,1023,2047] 10 mixedOrders (by decide +kernel) ?_;refine JR.open (by exact rfl) ?_;refine bK Z .nil (kA 0 Z) (dG Z (aF.fact 0 Z) Z Z Z) aO.z<|dB Z<|jR 0 Z<|cX h λe h=>bK Z .nil (kA 1 Z) (aZ Z Z (aF.fact 0 Z) Z Z e) aO.z<|bK Z .nil (kA 1 Z) (bQ Z (aF.fact 0 Z) Z Z Z cQ e) aO.z<|bK Z .nil (kA 0 Z) (dG Z (aF.fact 0 Z) Z Z Z) aO.z<|bK Z .nil (kA 2 Z) (dG Z (aF.fact 0 Z) Z Z Z) aO.z<|cX h λf h=>bK Z .nil (kA 1 Z) (aZ Z Z (aF.fact 0 Z) Z Z f) aO.z<|bK Z .nil (kA 1 Z) (bQ Z (aF.fact 0 Z) Z Z Z cQ f) aO.z<|jS Z (oK Z Z)<|bP 10 Z Z<|cP Z<|aE Z<|aM<|aW ?_;cases h;exact tU Z
def zY  (a:Unit):Option (Bool):=
 some (true)
def uZ (c:aQ) (d:aQ) (a:Int) (b:(Int)->Option (Bool)):Option (Bool):=
 if a<(List.length c:Int)then(ck (0<=a∧a<(List.length c:Int)) (ck (0<=a∧a<(List.length d:Int)) (if(at' c a)≠(at' d a)then(some (false))else(b (wI .i64 (a+(1:Int)))))))else(zY  (()))
def wX (U:Nat) (a:aQ) (b:aQ):Option (Bool):=
 if(List.length a:Int)≠(List.length b:Int)then(some (false))else(bJ (uZ a b) U (0:Int))
theorem aak:aX Tryz.prog 117:=Tryz.call117
theorem KF (U:Nat) {f:aQ} {g:aQ} (i:Value)  (j:Value) (r:Bool) (h:wX U f g=some r):
  aY Tryz.prog 117 #[i,j] [Sl bO i f,Sl bO j g] (λx:Unit=>vB (r)) (λx l=>l) (λ_ l=>l):=by
 refine aY.of Tryz.func117 Z Tryz.ntmps117 Z λc=>?_;refine aV<|aE Z<|aM<|aK<|aV<|aA Z<|kF (aF.fact 0 Z) Z<|aA Z<|kF (aF.fact 1 Z) Z<|q_ Z<|aM ?_;refine eV h Z (λh=>?_) λh=>?_
 ·refine aV<|aE Z<|aM<|aW<|aJ ?_;cases h;exact lA Z
 refine cK<|aK<|dO (λd=>zY  d=some r) (λd k=>[]) (λd k=>[]) ?_ ?_
 ·refine aV<|aA Z<|kF (aF.fact 0 Z) Z<|aA Z<|aM<|aS<|dU (uZ f g) (λe m=>[(0,i),(1,j),(12,vI (List.length f:Int)),(13,vI (e))]) (λe m=>[]) (0:Int) () h SF (a_.refl _) ?_;intro n e m h;refine aV<|cM Z<|aM<|aK ?_;refine eV h Z (λh=>?_) λh=>?_
  ·refine cK<|aK<|aS<|aV<|aA Z<|aE Z<|aM<|aK ?_;refine JR.start [0,0,3,7,0,0,48,112,255] 8 mixedOrders (by decide +kernel) ?_;refine JR.open (by exact rfl) ?_;refine bG Z<|bG Z<|cX h λa h=>bK Z .nil (kA 0 Z) (aZ Z Z (aF.fact 0 Z) Z Z a) aO.z<|bK Z .nil (kA 0 Z) (bQ Z (aF.fact 0 Z) Z Z Z cQ a) aO.z<|bG Z<|bG Z<|cX h λb h=>bK Z .nil (kA 1 Z) (aZ Z Z (aF.fact 0 Z) Z Z b) aO.z<|bK Z .nil (kA 1 Z) (bQ Z (aF.fact 0 Z) Z Z Z cQ b) aO.z<|bP 8 Z Z<|q_ Z<|aM ?_;refine eV h Z (λh=>?_) λh=>?_
   ·refine aV<|aE Z<|aM<|aW<|bM<|aJ<|aJ<|bM<|aJ ?_;cases h;exact lA Z
   refine dK<|mA<|aR<|cH Z<|aA Z<|aM ?_;exact xT (wI .i64 (e+(1:Int))) () h SF Z
  refine e_ ?_;exact iB () (()) h SF Z
 intro d k h;unfold zY at h;refine aV<|aE Z<|aM<|aW ?_;cases h;exact lA Z
def wH (U:Nat) (a:Int) (c:aQ) (e:aQ) (d:Int):Option (Bool):=
 ck (0<=a∧a<(List.length c:Int)) (Option.bind (wX U e ([(at' c a),d])) λb=>(some (b)))
def Cp (U:Nat) (b:Int) (c:aQ) (d:aQ) (a:Unit):Option (Bool):=
 wH U b c d (-1:Int)
def sR (U:Nat) (d:cE) (b:Int) (e:aQ) (g:aQ) (a:Int) (c:(Int)->Option (Bool)):Option (Bool):=
 if a<(List.length (at' d.2 b):Int)then(ck (0<=a∧a<(List.length (at' d.2 b):Int)) (Option.bind (yO U ((((at' (at' d.2 b) a).1),((at' (at' d.2 b) a).2))) e b) λf=>(if f=true then(wH U b e g (a))else(c (wI .i64 (a+(1:Int)))))))else(Cp U b e g (()))
def vW (U:Nat) (b:cE) (a:Int) (c:aQ) (d:aQ):Option (Bool):=
 ck (0<=a∧a<(List.length b.2:Int)) (bJ (sR U b a c d) U (0:Int))
theorem adD:aX Tryz.prog 86:=Tryz.call86
theorem Qb (U:Nat) {f:cE} {b:Int} {j:aQ} {o:aQ} (p:Value)  (q:Value)  (F:k_)  (n:Value)  (v:Value) (r:Bool) (h:vW U f b j o=some r):
  aY Tryz.prog 86 #[Value.agg #[p,q],vI (b),n,v] [Sl bO p f.1,S2 bB q F f.2,Sl bO n j,Sl bO v o] (λx:Unit=>vB (r)) (λx l=>l) (λ_ l=>l):=by
 refine aY.of Tryz.func86 Z Tryz.ntmps86 Z λc=>?_;refine aV<|aH (aN.box (cs:=[p,q]) Z Z) Z λN=>aH (aN.box (cs:=[vI (b)]) Z Z) Z λk=>cG (Know.one ((aF.fact 2 Z))) λy=>?_;refine aH (aN.box (cs:=[n]) Z (by rw[eN y])) Z λm=>?_;refine aE Z<|aM<|aV<|eK 2 Z<|dD 1 Z<|aB (x_ (cs:=[.tmp 6,.tmp 5]) (vs:=[vP m,vP k]) Z) Z<|Bt (A:=Int) (B:=Unit) (vs:=[Value.agg #[p,q],vI (b),Value.func (.func 116) #[] #[vP m,vP k]]) (λi=>wH U b j o i=some r) (λi w=>vI (i)) (λi w=>[bV m [n] 22,bV k [vI (b)] 3]) (λi w=>[Sl bO p f.1,S2 bB q F f.2,Sl bO n j,Sl bO v o]) (tG.fn (show aX Tryz.prog 115 from Tryz.call115) Z) Tryz.func115 Z Tryz.ntmps115 Z Z ?_ ?_
 ·refine aV<|aH (aN.box (cs:=[p,q]) Z Z) Z λH=>aE Z<|aM<|aK<|dO (λg=>Cp U b j o g=some r) (λg s=>[]) (λg s=>[bV m [n] 22,bV k [vI (b)] 3]) ?_ ?_
  ·refine aV<|bT Z<|dD 0 Z<|aA Z<|cX h λd h=>aB (bX Z Z (aF.fact 1 Z) Z Z d) Z<|aB (bW Z (aF.fact 1 Z) Z Z d) Z<|aB (fX Z (aF.el (aF.fact 1 Z) d.1 d.2) Z) Z<|aA Z<|aM<|aS<|dU (sR U f b j o) (λa t=>[(2,Value.func (.func 116) #[] #[vP m,vP k]),(13,(at' F b).1),(14,vI (List.length (at' f.2 b):Int)),(15,vI (a))]) (λa t=>[bV m [n] 22,bV k [vI (b)] 3]) (0:Int) () h SF (a_.ix [1,2] Z Z) ?_;intro J a t h;refine aV<|cM Z<|aM<|aK ?_;refine eV h Z (λh=>?_) λh=>?_
   ·refine cK<|aK<|aS<|aV<|aA Z<|cX h λu h=>aB (aZ Z Z (aF.el (aF.fact 1 Z) d.1 d.2) Z Z u) Z<|aB (jA (cs:=[vI ((at' (at' f.2 b) a).1),vI ((at' (at' f.2 b) a).2)]) Z (aF.el (aF.fact 1 Z) d.1 d.2) bU Z Z Z Z u) Z<|aH (aN.alloc (cs:=VH) Z Z) Z λI=>aE Z<|bS 0 (vs:=[vI ((at' (at' f.2 b) a).1),vI ((at' (at' f.2 b) a).2)]) Z Z Z Z Z Z<|aM<|aV<|aA Z<|eK 0 Z<|fH h λC E h=>aH (vO (vs:=[Value.agg #[vI ((at' (at' f.2 b) a).1),vI ((at' (at' f.2 b) a).2)]]) (cs:=[vP m,vP k]) aaj Z (La U m n k C E) Z (aG.cons (aF.res 1 Z) (aG.cons (aF.fact 2 Z) (aG.cons (aF.res 2 Z) .nil))) (λ_ _=>rfl)) Z λM=>aM ?_;refine AZ h Z (λ_ h=>?_) λ_ h=>?_
    ·refine aV<|aA Z<|aE Z<|aM<|aW<|bM<|aJ<|aJ<|bM<|aJ ?_;exact tJ (a) () h (.inl Z) (Hb.r1 Z (RV.tmp Z)) Z (a_.ix [1,2] Z Z) (aG.refl _ _)
    refine dK<|mA<|aR<|cH Z<|aA Z<|aM ?_;exact mG (wI .i64 (a+(1:Int))) () h SF (a_.ix [1,2] Z Z) (aG.refl _ _)
   refine e_ ?_;exact iB () (()) h SF Z
  intro g s h;unfold Cp at h;refine aV<|aE Z<|aM<|aW ?_;exact tJ (-1:Int) () h (.inl Z) (Hb.r1 Z (RV.tmp Z)) Z (a_.refl _) (aG.refl _ _)
 intro i w h;refine aE Z<|aM<|aV<|aA Z<|dD 0 Z<|dD 1 Z<|cX h λG h=>aB (aZ Z Z (aF.fact 2 Z) Z Z G) Z<|aB (bQ Z (aF.fact 2 Z) Z Z Z cQ G) Z<|aA Z<|aH (bY (e:=bZ) ([(at' j b),i]) [(0,vI (at' j b)),(1,vI (i))] Z Z Z Z (JP (vI (at' j b)) (vI (i)) Z Z) Z Z Z) Z λK=>fH h λz D h=>aH (aN.callQ aak (KF U v K z D) Z (aG.cons (aF.fact 3 Z) (aG.cons (bD (aF.res 0 Z) dJ) .nil))) Z λL=>aE Z<|aM<|aW ?_;cases h;exact tU Z
def Co  (a:Unit):Option (Bool):=
 some (true)
def Ak (U:Nat) (e:cE) (c:bF) (f:aQ) (a:Int) (b:(Int)->Option (Bool)):Option (Bool):=
 if a<(List.length c:Int)then(ck (0<=a∧a<(List.length c:Int)) (Option.bind (vW U ((e.1,e.2)) a f (at' c a)) λd=>(if(!d)=true then(some (false))else(b (wI .i64 (a+(1:Int)))))))else(Co  (()))
def vV (U:Nat) (a:cE) (b:bF):Option (Bool):=
 Option.bind (pB U ((a.1,a.2)) b) λc=>(if(!c)=true then(some (false))else(Option.bind (oC U ((a.1,a.2)) (0:Int)) λd=>(bJ (Ak U a b d) U (0:Int))))
theorem ado:aX Tryz.prog 56:=Tryz.call56
theorem Qa (U:Nat) {j:cE} {k:bF} (d:Value)  (e:Value)  (n:k_)  (m:Value)  (t:rB) (r:Bool) (h:vV U j k=some r):
  aY Tryz.prog 56 #[Value.agg #[d,e],m] [Sl bO d j.1,S2 bB e n j.2,S2 bO m t k] (λx:Unit=>vB (r)) (λx l=>l) (λ_ l=>l):=by
 refine aY.of Tryz.func56 Z Tryz.ntmps56 Z λc=>?_;refine aV<|aH (aN.box (cs:=[d,e]) Z Z) Z λu=>aE Z<|aM<|aK<|aV<|eK 0 Z<|aA Z<|fH h λw y h=>aH (aN.callQ adB (EV U d e n m t w y) Z (oS [0,1,2] Z)) Z λB=>aB (oQ Z) Z<|aM ?_;refine AZ h Z (λ_ h=>?_) λ_ h=>?_
 ·refine aV<|aE Z<|aM<|aW<|aJ ?_;cases h;exact tU Z
 refine cK<|aV<|eK 0 Z<|fH h λp z h=>aH (aN.callQ adC (GX U d e n p z) Z (oS [0,1] Z)) Z λs=>aE Z<|aM<|aK<|dO (λi=>Co  i=some r) (λi f=>[]) (λi f=>[]) ?_ ?_
 ·refine aV<|aA Z<|aB (iF Z (aF.fact 2 Z) Z) Z<|aA Z<|aM<|aS<|dU (Ak U j k p) (λa g=>[(2,vP u),(5,s),(14,m),(15,vI (List.length k:Int)),(16,vI (a))]) (λa g=>[Ar bZ s p,bV u [d,e] 28]) (0:Int) () h SF (a_.refl _) ?_;intro v a g h;refine aV<|cM Z<|aM<|aK ?_;refine eV h Z (λh=>?_) λh=>?_
  ·refine cK<|aK<|aS<|aV<|aA Z<|cX h λb h=>aB (bX Z Z (aF.fact 2 Z) Z Z b) Z<|aB (bW Z (aF.fact 2 Z) Z Z b) Z<|aE Z<|aE Z<|aM<|aV<|eK 1 Z<|aA Z<|aA Z<|aA Z<|fH h λo q h=>aH (aN.callQ adD (Qb U d e n s ((at' t a).1) o q) Z (aG.cons (aF.fact 0 Z) (aG.cons (aF.fact 1 Z) (aG.cons (bD (aF.res 0 Z) dJ) (aG.cons (aF.el (aF.fact 2 Z) b.1 b.2) .nil))))) Z λA=>aB (oQ Z) Z<|aM ?_;refine AZ h Z (λ_ h=>?_) λ_ h=>?_
   ·refine aV<|aE Z<|aM<|aW<|bM<|aJ<|aJ<|bM<|aJ ?_;cases h;exact tU Z
   refine dK<|mA<|aR<|cH Z<|aA Z<|aM ?_;exact xT (wI .i64 (a+(1:Int))) () h SF Z
  refine e_ ?_;exact cC () (()) h SF .nil (aG.refl _ _)
 intro i f h;unfold Co at h;refine aV<|aE Z<|aM<|aW ?_;cases h;exact lA Z
def wJ  (a:aQ):Option aQ:=
 some (a)
def sB (a:lB) (c:rA->Option aQ) (b:aQ):Option aQ:=
 c ((wI .i64 (a.1+(1:Int))),b)
def pO (e:cE) (b:bF) (c:Int) (a:lB) (d:rA->Option aQ):Option aQ:=
 if a.1<(List.length b:Int)then(ck (0<=a.1∧a.1<(List.length b:Int)) (ck (0<=a.1∧a.1<(List.length a.2:Int)) (ck (0<=c∧c<(List.length (at' b a.1):Int)) (if(0:Int)<=(at' (at' b a.1) c)then(ck (0<=a.1∧a.1<(List.length e.2:Int)) (ck (0<=c∧c<(List.length (at' b a.1):Int)) (ck (0<=(at' (at' b a.1) c)∧(at' (at' b a.1) c)<(List.length (at' e.2 a.1):Int)) (ck (0<=a.1∧a.1<(List.length (List.set a.2 (Int.toNat a.1) (-1:Int)):Int)) (sB a d (List.set (List.set a.2 (Int.toNat a.1) (-1:Int)) (Int.toNat a.1) ((at' (at' e.2 a.1) (at' (at' b a.1) c)).1)))))))else(sB a d (List.set a.2 (Int.toNat a.1) (-1:Int)))))))else(wJ  (a.2))
def oM (U:Nat) (b:cE) (a:bF) (c:Int):Option aQ:=
 ck (0<=(List.length a:Int)∧(List.length a:Int)<=1099511627) (bJ (pO b a c) U ((0:Int),(List.replicate (Int.toNat (List.length a:Int)) (0:Int))))
theorem WR:aX Tryz.prog 58:=Tryz.call58
theorem Fg (U:Nat) {j:cE} {g:bF} {i:Int} (v:Value)  (w:Value)  (E:k_)  (A:Value)  (F:rB) (r:aQ) (h:oM U j g i=some r):
  aY Tryz.prog 58 #[Value.agg #[v,w],A,vI (i)] [Sl bO v j.1,S2 bB w E j.2,S2 bO A F g] (λx:Value=>x) (λx l=>Ar bZ x r::l) (λ_ l=>l):=by
 refine aY.of Tryz.func58 Z Tryz.ntmps58 Z λc=>?_;refine aV<|aH (aN.box (cs:=[v,w]) Z Z) Z λy=>aE Z<|aM<|aV<|aA Z<|aB (iF Z (aF.fact 2 Z) Z) Z<|cX h λD h=>aH (mH (e:=bZ) (0:Int) Z Z Z Z D Z Z Z) Z λk=>aE Z<|aM<|aK<|dO (λm=>wJ  m=some r) (λm C=>[(7,k)]) (λm C=>[Ar bZ k m]) ?_ ?_
 ·refine aV<|aA Z<|aB (iF Z (aF.fact 2 Z) Z) Z<|aA Z<|aM<|aS<|dU (pO j g i) (λa n=>[(2,vI (i)),(3,vP y),(7,k),(13,A),(14,vI (List.length g:Int)),(15,vI (a.1))]) (λa n=>[Ar bZ k a.2,bV y [v,w] 28]) ((0:Int),(List.replicate (Int.toNat (List.length g:Int)) (0:Int))) () h SF (a_.refl _) ?_;intro B a n h;refine aV<|cM Z<|aM<|aK ?_;refine eV h Z (λh=>?_) λh=>?_
  ·refine cK<|aK<|dO (λd=>sB a (bJ (pO j g i) B) d=some r) (λd o=>[(2,vI (i)),(3,vP y),(7,k),(13,A),(14,vI (List.length g:Int)),(15,vI (a.1))]) (λd o=>[Ar bZ k d,bV y [v,w] 28]) ?_ ?_
   ·refine aS<|aV<|aA Z<|cX h λb h=>aB (bX Z Z (aF.fact 2 Z) Z Z b) Z<|aB (bW Z (aF.fact 2 Z) Z Z b) Z<|aE Z<|aE Z<|aM<|aV<|aA Z<|aA Z<|cX h λp h=>aB (aZ Z Z (bD (aF.res 0 Z) dJ) Z Z p) Z<|tW 0 (-1:Int) p Z Z Z Z Z Z Z<|aM<|aV<|aA Z<|aA Z<|cX h λq h=>aB (aZ Z Z (aF.el (aF.fact 2 Z) b.1 b.2) Z Z q) Z<|aB (bQ Z (aF.el (aF.fact 2 Z) b.1 b.2) Z Z Z cQ q) Z<|aB (De Z Z) Z<|aM ?_;refine eV h Z (λh=>?_) λh=>?_
    ·refine JR.start [0,0,0,4,0,28,60,0,0,384,896,2044,4092,8188,16383,32767] 14 mixedOrders (by decide +kernel) ?_;refine JR.open (by exact rfl) ?_;refine bG Z<|bG Z<|dB Z<|jR 1 Z<|bG Z<|cX h λf h=>bK Z .nil (kA 1 Z) (bX Z Z (aF.fact 0 Z) Z Z f) aO.z<|bK Z .nil (kA 1 Z) (bW Z (aF.fact 0 Z) Z Z f) aO.z<|bG Z<|bG Z<|cX h λs h=>bK Z .nil (kA 2 Z) (aZ Z Z (aF.el (aF.fact 0 Z) b.1 b.2) Z Z s) aO.z<|bK Z .nil (kA 2 Z) (bQ Z (aF.el (aF.fact 0 Z) b.1 b.2) Z Z Z cQ s) aO.z<|cX h λt h=>bK Z .nil (kA 1 Z) (aZ Z Z (aF.el (aF.fact 0 Z) f.1 f.2) Z Z t) aO.z<|jS Z (fY Z Z Z Z Z)<|bK Z .nil (kA 1 Z) (jO Z (aF.el (aF.fact 0 Z) f.1 f.2) Z Z Z mJ t) aO.z<|bP 14 Z Z<|cX h λu h=>aB (aZ Z Z (bD (aF.res 0 Z) dJ) Z Z u) Z<|tW 0 ((at' (at' j.2 a.1) (at' (at' g a.1) i)).1) u Z Z Z Z Z Z Z<|eI<|mA ?_;exact iB (List.set (List.set a.2 (Int.toNat a.1) (-1:Int)) (Int.toNat a.1) ((at' (at' j.2 a.1) (at' (at' g a.1) i)).1)) () h SF Z
    refine dK<|mA ?_;exact iB (List.set a.2 (Int.toNat a.1) (-1:Int)) () h SF Z
   intro d o h;unfold sB at h;refine aR<|cH Z<|aA Z<|aM ?_;exact xT ((wI .i64 (a.1+(1:Int))),d) () h SF Z
  refine e_ ?_;exact cC (a.2) () h SF (a_.ix [0] Z Z) (aG.refl _ _)
 intro m C h;unfold wJ at h;refine aV<|aA Z<|aE Z<|aM<|aW ?_;cases h;exact gH (k) Z Z (RV.tmp Z) (a_.refl _) aG.nil
def BI  (a:Unit):Option (Bool):=
 some (true)
def rJ (b:Int) (a:(Int)->Option (Bool)) (c:Unit):Option (Bool):=
 a (wI .i64 (b+(1:Int)))
def uH (b:Int) (a:(Int)->Option (Bool)) (c:Bool):Option (Bool):=
 if c=true then(some (false))else(rJ b a (()))
def uG (b:bF) (d:aQ) (a:Int) (c:(Int)->Option (Bool)) (e:Bool):Option (Bool):=
 if e=true then(rJ a c (()))else(ck (0<=a∧a<(List.length b:Int)) (ck (0<=(2:Int)∧(2:Int)<(List.length (at' b a):Int)) (ck (0<=(at' d a)∧(at' d a)<(List.length b:Int)) (ck (0<=(2:Int)∧(2:Int)<(List.length (at' b (at' d a)):Int)) (if(at' (at' b a) (2:Int))≠(at' (at' b (at' d a)) (2:Int))then(uH a c (true))else(ck (0<=a∧a<(List.length b:Int)) (ck (0<=(3:Int)∧(3:Int)<(List.length (at' b a):Int)) (ck (0<=(at' d a)∧(at' d a)<(List.length b:Int)) (ck (0<=(3:Int)∧(3:Int)<(List.length (at' b (at' d a)):Int)) (uH a c (decide ((at' (at' b a) (3:Int))≠(at' (at' b (at' d a)) (3:Int))))))))))))))
def iA (d:bF) (b:aQ) (a:Int) (c:(Int)->Option (Bool)):Option (Bool):=
 if a<(List.length b:Int)then(ck (0<=a∧a<(List.length b:Int)) (if(at' b a)<(0:Int)then(uG d b a c (true))else(ck (0<=(at' b a)∧(at' b a)<(List.length d:Int)) (ck (0<=(2:Int)∧(2:Int)<(List.length (at' d (at' b a)):Int)) (uG d b a c (decide ((at' (at' d (at' b a)) (2:Int))=(1:Int))))))))else(BI  (()))
def oP (U:Nat) (a:cE) (b:bF) (c:Bool):Option (Bool):=
 if c=true then(some (false))else(Option.bind (oM U ((a.1,a.2)) b (1:Int)) λd=>(bJ (iA b d) U (0:Int)))
def Fj (U:Nat) (b:cE) (d:bF) (a:bF):Option (Bool):=
 Option.bind (vV U ((b.1,b.2)) a) λc=>(oP U b d ((!c)))
def yZ (U:Nat) (b:cE) (c:bF) (a:bF):Option (Bool):=
 Fj U b c (a)
def uI (U:Nat) (d:cE) (c:bF) (a:Int×bF) (b:(Int×bF)->Option (Bool)):Option (Bool):=
 if a.1<(List.length c:Int)then(ck (0<=a.1∧a.1<(List.length c:Int)) (ck (0<=(0:Int)∧(0:Int)<=(2:Int)∧(2:Int)<=(2:Int)∧(2:Int)<=(List.length (at' c a.1):Int)) (ck (0<=a.1∧a.1<(List.length a.2:Int)) (b ((wI .i64 (a.1+(1:Int))),(List.set a.2 (Int.toNat a.1) (List.drop (Int.toNat (0:Int)) (List.take (Int.toNat (2:Int)) (at' c a.1)))))))))else(yZ U d c (a.2))
def qM (U:Nat) (b:cE) (a:bF):Option (Bool):=
 Option.bind (sK U ((b.1,b.2)) a) λc=>(if(!c)=true then(oP U b a (true))else(ck (0<=(List.length a:Int)∧(List.length a:Int)<=1099511627) (bJ (uI U b a) U ((0:Int),(List.replicate (Int.toNat (List.length a:Int)) ([]:aQ))))))
theorem adg:aX Tryz.prog 32:=Tryz.call32
theorem NO (U:Nat) {D:cE} {d:bF} (E:Value)  (F:Value)  (O:k_)  (s:Value)  (P:rB) (r:Bool) (h:qM U D d=some r):
  aY Tryz.prog 32 #[Value.agg #[E,F],s] [Sl bO E D.1,S2 bB F O D.2,S2 bO s P d] (λx:Unit=>vB (r)) (λx l=>l) (λ_ l=>l):=by
 refine aY.of Tryz.func32 Z Tryz.ntmps32 Z λc=>?_;refine aV<|aH (aN.box (cs:=[E,F]) Z Z) Z λR=>aE Z<|aM<|aK<|aK<|dO (λQ=>oP U D d Q=some r) (λQ b4=>[(1,s),(2,vP R),(17,vB (Q))]) (λQ b4=>[bV R [E,F] 28]) ?_ ?_
 ·refine JR.start [0,0,3,7,15,31,31,95,255,511,1023] 8 mixedOrders (by decide +kernel) ?_;refine JR.open (by exact rfl) ?_;refine pX 0 Z<|bG Z<|fH h λai aj h=>JR.loud Z Z Z (aN.callQ adn (En U E F O s P ai aj) Z (oS [0,1,2] Z)) Z (λal=>(wF [] Z)) λal=>jS Z (oQ Z)<|jS Z (iG Z) ?_;refine JR.guard (by exact rfl) (by exact rfl) (by exact rfl) (λJ=>?_) (λJ=>?_)
  ·have h:=LP J h;refine cO Z Z Z Z<|cO Z Z Z Z<|cO Z Z Z Z<|bP 8 Z Z<|aI Z<|aI Z<|dW Z<|aM ?_;exact iB (true) () h SF Z
  have h:=Gr J h;refine iM Z (a_.cons 0 Z .nil) .nil (iN 0 Z Z Z Z) (VP Z)<|iM Z .nil .nil (iG Z) (VP Z)<|Ob (A:=bF) (B:=Ip) (vs:=[s]) (λp=>Fj U D d p=some r) (λp f=>f.1) (λp f=>[Ar dA.raw f.1 f.2,bV R [E,F] 28]) (λp f=>[Wu bO f.2 p,Sl bO E D.1,S2 bB F O D.2,S2 bO s P d]) Z Z Z Z (tG.fn (show aX Tryz.prog 57 from Tryz.call57) Z) Tryz.func57 Z Tryz.ntmps57 Z Z (λ_ _=>(wF [([1],[])] Z)) ?_ ?_
  ·refine aV<|aE Z<|aM<|aV<|aA Z<|aB (iF Z (aF.fact 2 Z) Z) Z<|cX h λah h=>SO bO (Int.toNat (List.length d:Int))<|aH (mH (e:=dA.raw) (lC) Z Z Z Z ah Z Z Z) Z λK=>aE Z<|aM<|aK<|Bu (B:=fV) (λq=>yZ U D d q=some r) (λq t=>[(3,K)]) (λq t=>[Ar dA.raw K t,bV R [E,F] 28]) (λq t=>[Wu bO t q,Sl bO E D.1,S2 bB F O D.2,S2 bO s P d]) ?_ ?_
   ·refine aV<|aA Z<|aB (iF Z (aF.fact 3 Z) Z) Z<|aA Z<|aM<|aS<|Ev (B:=fV) (uI U D d) (λb g=>[(3,K),(9,s),(10,vI (List.length d:Int)),(11,vI (b.1))]) (λb g=>[Ar dA.raw K g,bV R [E,F] 28]) (λb g=>[Wu bO g b.2,Sl bO E D.1,S2 bB F O D.2,S2 bO s P d]) ((0:Int),(List.replicate (Int.toNat (List.length d:Int)) ([]:aQ))) (List.replicate (Int.toNat (List.length d:Int)) (lC)) h SF (a_.refl _) (aG.refl _ _) ?_;intro am b g h;refine aV<|cM Z<|aM<|aK ?_;refine eV h Z (λh=>?_) λh=>?_
    ·refine cK<|aK<|aS<|aV<|aA Z<|cX h λm h=>aB (bX Z Z (aF.fact 3 Z) Z Z m) Z<|aB (bW Z (aF.fact 3 Z) Z Z m) Z<|aE Z<|aE Z<|aM<|aR<|aA Z<|aA Z<|aA Z<|cX h λM h=>aB (Lu Z Z Z Z (aF.el (aF.fact 3 Z) m.1 m.2) Z Z M) Z<|cX h λaf h=>aB (bX Z Z (Ch (i:=0) (j:=0) Z Z) Z Z af) Z<|cG (Know.one ((Cg (aF.el (aF.fact 3 Z) m.1 m.2) Z M))) λX=>Lk 0 0 af Z Z Z Z X Z<|SS (k:=Int.toNat b.1) 0 (vs:=g) Z (Cg (aF.el (aF.fact 3 Z) m.1 m.2) Z M)<|eI<|mA<|aR<|cH Z<|aA Z<|aM ?_;exact xT ((wI .i64 (b.1+(1:Int))),(List.set b.2 (Int.toNat b.1) (List.drop (Int.toNat (0:Int)) (List.take (Int.toNat (2:Int)) (at' d b.1))))) (List.set g (Int.toNat b.1) (sl3 ((at' P b.1).1) (Int.toNat (0:Int)) (Int.toNat (2:Int)) (Int.toNat (2:Int)) 1)) h SF Z
    refine e_ ?_;exact iB (b.2) (g) h SF Z
   intro q t h;unfold yZ at h;refine aV<|aA Z<|aE Z<|aM<|aW ?_;exact tJ (q) (K,t) h (.inl Z) (Hb.r1 Z (RV.tmp Z)) Z (a_.refl _) (aG.refl _ _)
  intro p f h;refine bP 8 Z Z<|fH h λag ak h=>nF Z (aN.callQ ado (Qa U E F O f.1 (List.zip f.2 p) ag ak) Z (aG.cons (aF.fact 1 Z) (aG.cons (aF.fact 2 Z) (aG.cons (Ch (i:=0) (j:=0) Z Z) .nil)))) Z λan=>aP Z (oQ Z) Z<|fO Z<|aM ?_;exact cC ((!ag)) () h SF (a_.ix [1] Z Z) (oS [1,2,3] Z)
 intro Q b4 h;refine AZ h Z (λ_ h=>?_) λ_ h=>?_
 ·refine aV<|aE Z<|aM<|aW<|aJ ?_;cases h;exact tU Z
 refine cK<|aK<|dO (λa6=>BI  a6=some r) (λa6 b7=>[]) (λa6 b7=>[]) ?_ ?_
 ·refine aV<|eK 0 Z<|aA Z<|fH h λn w9 h=>aH (aN.callQ WR (Fg U E F O s P n w9) Z (oS [0,1,2] Z)) Z λo=>aB (fX Z (bD (aF.res 0 Z) dJ) Z) Z<|aA Z<|aM<|aS<|dU (iA d n) (λa S=>[(1,s),(20,o),(21,vI (List.length n:Int)),(22,vI (a))]) (λa S=>[Ar bZ o n]) (0:Int) () h SF (a_.ix [0] Z Z) ?_;intro N a S h;refine aV<|cM Z<|aM<|aK ?_;refine eV h Z (λh=>?_) λh=>?_
  ·refine cK<|aK<|dO (λL=>rJ a (bJ (iA d n) N) L=some r) (λL T=>[(1,s),(20,o),(21,vI (List.length n:Int)),(22,vI (a))]) (λL T=>[Ar bZ o n]) ?_ ?_
   ·refine aS<|aV<|aA Z<|cX h λY h=>aB (aZ Z Z (bD (aF.res 0 Z) dJ) Z Z Y) Z<|aB (bQ Z (bD (aF.res 0 Z) dJ) Z Z Z cQ Y) Z<|aE Z<|aE Z<|aM<|aK<|aK<|dO (λG=>uG d n a (bJ (iA d n) N) G=some r) (λG V=>[(1,s),(5,vI (a)),(6,vI (at' n a)),(20,o),(21,vI (List.length n:Int)),(22,vI (a)),(37,vB (G))]) (λG V=>[Ar bZ o n]) ?_ ?_
    ·refine aR<|aA Z<|cM Z<|aA Z ?_;refine Dv h Z (λ_ h=>?_) λ_ h=>?_
     ·refine aI Z<|aI Z<|aI Z<|aI Z<|aI Z<|aI Z<|aI Z<|dW Z<|aM ?_;exact iB (true) () h SF Z
     refine cS Z<|cS Z<|cX h λC h=>aP Z (bX Z Z (aF.fact 2 Z) Z Z C) Z<|aP Z (bW Z (aF.fact 2 Z) Z Z C) Z<|cX h λae h=>aP Z (aZ Z Z (aF.el (aF.fact 2 Z) C.1 C.2) Z Z ae) Z<|aP Z (bQ Z (aF.el (aF.fact 2 Z) C.1 C.2) Z Z Z cQ ae) Z<|aP Z (OB Z Z) Z<|fO Z<|aM ?_;exact iB (decide ((at' (at' d (at' n a)) (2:Int))=(1:Int))) () h SF Z
    intro G V h;refine AZ h Z (λ_ h=>?_) λ_ h=>?_
    ·refine pH<|dV<|vM<|Ae ?_;exact iB () (()) h SF Z
    refine cK<|aK<|dO (λH=>uH a (bJ (iA d n) N) H=some r) (λH W=>[(1,s),(20,o),(21,vI (List.length n:Int)),(22,vI (a)),(65,vB (H))]) (λH W=>[Ar bZ o n]) ?_ ?_
    ·refine JR.start [0,0,3,7,15,31,0,0,192,448,960,1984,4095,8191,16383,16383,65535,131071,262143,524287,16383,16383,3162111,7356415,15745023,32522239,67108863,134217727] 26 mixedOrders (by decide +kernel) ?_;refine JR.open (by exact rfl) ?_;refine bG Z<|bG Z<|cX h λu h=>bK Z .nil (kA 2 Z) (bX Z Z (aF.fact 0 Z) Z Z u) aO.z<|bK Z .nil (kA 2 Z) (bW Z (aF.fact 0 Z) Z Z u) aO.z<|cX h λaa h=>bK Z .nil (kA 2 Z) (aZ Z Z (aF.el (aF.fact 0 Z) u.1 u.2) Z Z aa) aO.z<|bK Z .nil (kA 2 Z) (bQ Z (aF.el (aF.fact 0 Z) u.1 u.2) Z Z Z cQ aa) aO.z<|bG Z<|bG Z<|cX h λv h=>bK Z .nil (kA 2 Z) (bX Z Z (aF.fact 0 Z) Z Z v) aO.z<|bK Z .nil (kA 2 Z) (bW Z (aF.fact 0 Z) Z Z v) aO.z<|cX h λab h=>bK Z .nil (kA 2 Z) (aZ Z Z (aF.el (aF.fact 0 Z) v.1 v.2) Z Z ab) aO.z<|bK Z .nil (kA 2 Z) (bQ Z (aF.el (aF.fact 0 Z) v.1 v.2) Z Z Z cQ ab) aO.z<|jS Z (Df Z Z)<|bG Z ?_;refine Ll (by exact rfl) (by exact rfl) (by exact rfl) (λI=>?_) (λI=>?_)
     ·have h:=LP I h;refine cO Z Z Z Z<|cO Z Z Z Z<|cO Z Z Z Z<|cO Z Z Z Z<|cO Z Z Z Z<|cO Z Z Z Z<|cO Z Z Z Z<|cO Z Z Z Z<|cO Z Z Z Z<|cO Z Z Z Z<|cO Z Z Z Z<|cO Z Z Z Z<|bP 26 Z Z<|aI Z<|dW Z<|aM ?_;exact iB (true) () h SF Z
     have h:=ifN I h;refine iM Z .nil .nil (iG Z) aO.z<|iM Z .nil .nil (iG Z) aO.z<|cX h λw h=>iM Z .nil (kA 2 Z) (bX Z Z (aF.fact 0 Z) Z Z w) aO.z<|iM Z .nil (kA 2 Z) (bW Z (aF.fact 0 Z) Z Z w) aO.z<|cX h λac h=>iM Z .nil (kA 2 Z) (aZ Z Z (aF.el (aF.fact 0 Z) w.1 w.2) Z Z ac) aO.z<|iM Z .nil (kA 2 Z) (bQ Z (aF.el (aF.fact 0 Z) w.1 w.2) Z Z Z cQ ac) aO.z<|iM Z .nil .nil (iG Z) aO.z<|iM Z .nil .nil (iG Z) aO.z<|cX h λy h=>iM Z .nil (kA 2 Z) (bX Z Z (aF.fact 0 Z) Z Z y) aO.z<|iM Z .nil (kA 2 Z) (bW Z (aF.fact 0 Z) Z Z y) aO.z<|cX h λad h=>iM Z .nil (kA 2 Z) (aZ Z Z (aF.el (aF.fact 0 Z) y.1 y.2) Z Z ad) aO.z<|iM Z .nil (kA 2 Z) (bQ Z (aF.el (aF.fact 0 Z) y.1 y.2) Z Z Z cQ ad) aO.z<|bP 26 Z Z<|aP Z (Df Z Z) Z<|fO Z<|aM ?_;exact iB (decide ((at' (at' d a) (3:Int))≠(at' (at' d (at' n a)) (3:Int)))) () h SF Z
    intro H W h;refine AZ h Z (λ_ h=>?_) λ_ h=>?_
    ·refine aV<|aE Z<|aM<|aW<|bM<|aJ<|aJ<|bM<|aJ ?_;cases h;exact tU Z
    refine dK<|mA ?_;exact iB () (()) h SF Z
   intro L T h;unfold rJ at h;refine aR<|cH Z<|aA Z<|aM ?_;exact xT (wI .i64 (a+(1:Int))) () h SF Z
  refine e_ ?_;exact cC () (()) h SF .nil (aG.refl _ _)
 intro a6 b7 h;unfold BI at h;refine aV<|aE Z<|aM<|aW ?_;cases h;exact lA Z
def tD  (a:aQ):Option aQ:=
 some (a)
def tE (b:lB) (a:rA->Option aQ) (c:aQ):Option aQ:=
 a ((wI .i64 (b.1+(1:Int))),c)
def f_ (e:bF) (f:aQ) (b:lB) (c:rA->Option aQ) (a:lB) (d:rA->Option aQ):Option aQ:=
 if(0:Int)<=a.1 then(ck (0<=a.1∧a.1<(List.length a.2:Int)) (ck (0<=b.1∧b.1<(List.length e:Int)) (ck (0<=(4:Int)∧(4:Int)<(List.length (at' e b.1):Int)) (ck (0<=a.1∧a.1<(List.length a.2:Int)) (ck (0<=a.1∧a.1<(List.length f:Int)) (d ((at' f a.1),(List.set a.2 (Int.toNat a.1) (wI .i64 ((at' a.2 a.1)+(at' (at' e b.1) (4:Int))))))))))))else(tE b c (a.2))
def kZ (U:Nat) (c:bF) (d:aQ) (a:lB) (b:rA->Option aQ):Option aQ:=
 if a.1<(List.length c:Int)then(bJ (f_ c d a b) U (a.1,a.2))else(tD  (a.2))
def qZ (U:Nat) (b:cE) (a:bF):Option aQ:=
 Option.bind (oM U ((b.1,b.2)) a (1:Int)) λc=>(ck (0<=(List.length a:Int)∧(List.length a:Int)<=1099511627) (bJ (kZ U a c) U ((0:Int),(List.replicate (Int.toNat (List.length a:Int)) (0:Int)))))
theorem adh:aX Tryz.prog 34:=Tryz.call34
theorem IC (U:Nat) {B:cE} {g:bF} (y:Value)  (A:Value)  (D:k_)  (k:Value)  (E:rB) (r:aQ) (h:qZ U B g=some r):
  aY Tryz.prog 34 #[Value.agg #[y,A],k] [Sl bO y B.1,S2 bB A D B.2,S2 bO k E g] (λx:Value=>x) (λx l=>Ar bZ x r::l) (λ_ l=>l):=by
 refine aY.of Tryz.func34 Z Tryz.ntmps34 Z λc=>?_;refine aV<|aH (aN.box (cs:=[y,A]) Z Z) Z λI=>aE Z<|aM<|aV<|eK 0 Z<|aA Z<|fH h λi H h=>aH (aN.callQ WR (Fg U y A D k E i H) Z (oS [0,1,2] Z)) Z λm=>aE Z<|aM<|aV<|aA Z<|aB (iF Z (aF.fact 2 Z) Z) Z<|cX h λF h=>aH (mH (e:=bZ) (0:Int) Z Z Z Z F Z Z Z) Z λj=>aE Z<|aM<|aK<|dO (λn=>tD  n=some r) (λn C=>[(6,j)]) (λn C=>[Ar bZ j n]) ?_ ?_
 ·refine aV<|aA Z<|aB (iF Z (aF.fact 2 Z) Z) Z<|aA Z<|aM<|aS<|dU (kZ U g i) (λa o=>[(1,k),(5,m),(6,j),(16,vI (List.length g:Int)),(17,vI (a.1))]) (λa o=>[Ar bZ j a.2,Ar bZ m i]) ((0:Int),(List.replicate (Int.toNat (List.length g:Int)) (0:Int))) () h SF (a_.ix [0,1] Z Z) ?_;intro w a o h;refine aV<|cM Z<|aM<|aK ?_;refine eV h Z (λh=>?_) λh=>?_
  ·refine cK<|aK<|dO (λd=>tE a (bJ (kZ U g i) w) d=some r) (λd p=>[(1,k),(5,m),(6,j),(16,vI (List.length g:Int)),(17,vI (a.1))]) (λd p=>[Ar bZ j d,Ar bZ m i]) ?_ ?_
   ·refine aS<|aV<|aA Z<|aE Z<|aM<|aV<|aA Z<|aE Z<|aM<|aS<|dU (f_ g i a (bJ (kZ U g i) w)) (λb q=>[(1,k),(5,m),(6,j),(7,vI (a.1)),(8,vI (b.1)),(16,vI (List.length g:Int)),(17,vI (a.1))]) (λb q=>[Ar bZ j b.2,Ar bZ m i]) (a.1,a.2) () h SF (a_.refl _) ?_;intro G b q h;refine aK<|aV<|aA Z<|aB (De Z Z) Z<|aM ?_;refine eV h Z (λh=>?_) λh=>?_
    ·refine cK<|aK<|aS ?_;refine JR.start [0,0,3,7,0,0,48,112,240,496,1023,2047,4095] 10 mixedOrders (by decide +kernel) ?_;refine JR.open (by exact rfl) ?_;refine bG Z<|bG Z<|cX h λs h=>bK Z (a_.cons 0 Z .nil) .nil (aZ Z Z (bD (aF.res 0 Z) dJ) Z Z s) aO.z<|bK Z (a_.cons 0 Z .nil) .nil (bQ Z (bD (aF.res 0 Z) dJ) Z Z Z cQ s) aO.z<|bG Z<|bG Z<|cX h λf h=>bK Z .nil (kA 2 Z) (bX Z Z (aF.fact 0 Z) Z Z f) aO.z<|bK Z .nil (kA 2 Z) (bW Z (aF.fact 0 Z) Z Z f) aO.z<|cX h λt h=>bK Z .nil (kA 2 Z) (aZ Z Z (aF.el (aF.fact 0 Z) f.1 f.2) Z Z t) aO.z<|bK Z .nil (kA 2 Z) (bQ Z (aF.el (aF.fact 0 Z) f.1 f.2) Z Z Z cQ t) aO.z<|bP 10 Z Z<|cH Z<|cX h λu h=>aB (aZ Z Z (bD (aF.res 0 Z) dJ) Z Z u) Z<|tW 0 (wI .i64 ((at' b.2 b.1)+(at' (at' g a.1) (4:Int)))) u Z Z Z Z Z Z Z<|eI<|mA<|aR<|aA Z<|aA Z<|cX h λv h=>aB (aZ Z Z (bD (aF.res 1 Z) dJ) Z Z v) Z<|aB (bQ Z (bD (aF.res 1 Z) dJ) Z Z Z cQ v) Z<|aE Z<|aM ?_;exact xT ((at' i b.1),(List.set b.2 (Int.toNat b.1) (wI .i64 ((at' b.2 b.1)+(at' (at' g a.1) (4:Int)))))) () h SF Z
    refine pH<|dV<|dV<|vM<|mA ?_;exact iB (b.2) () h SF Z
   intro d p h;unfold tE at h;refine aR<|cH Z<|aA Z<|aM ?_;exact xT ((wI .i64 (a.1+(1:Int))),d) () h SF Z
  refine e_ ?_;exact cC (a.2) () h SF (a_.ix [0] Z Z) (aG.refl _ _)
 intro n C h;unfold tD at h;refine aV<|aA Z<|aE Z<|aM<|aW ?_;cases h;exact gH (j) Z Z (RV.tmp Z) (a_.refl _) aG.nil
def xH  (a:Unit):Option (Bool):=
 some (true)
def iR (c:bF) (d:aQ) (a:Int) (b:(Int)->Option (Bool)):Option (Bool):=
 if a<(List.length d:Int)then(ck (0<=a∧a<(List.length d:Int)) (ck (0<=a∧a<(List.length c:Int)) (ck (0<=(5:Int)∧(5:Int)<(List.length (at' c a):Int)) (if(at' (at' c a) (5:Int))≠(at' d a)then(some (false))else(b (wI .i64 (a+(1:Int))))))))else(xH  (()))
def oF (U:Nat) (a:cE) (b:bF) (c:Bool):Option (Bool):=
 if c=true then(some (false))else(Option.bind (qZ U ((a.1,a.2)) b) λd=>(bJ (iR b d) U (0:Int)))
def Bq (U:Nat) (b:cE) (d:bF) (a:bF):Option (Bool):=
 Option.bind (qM U ((b.1,b.2)) a) λc=>(oF U b d ((!c)))
def rR (U:Nat) (b:cE) (c:bF) (a:bF):Option (Bool):=
 Bq U b c (a)
def oG (U:Nat) (d:cE) (c:bF) (a:Int×bF) (b:(Int×bF)->Option (Bool)):Option (Bool):=
 if a.1<(List.length c:Int)then(ck (0<=a.1∧a.1<(List.length c:Int)) (ck (0<=(0:Int)∧(0:Int)<=(4:Int)∧(4:Int)<=(4:Int)∧(4:Int)<=(List.length (at' c a.1):Int)) (ck (0<=a.1∧a.1<(List.length a.2:Int)) (b ((wI .i64 (a.1+(1:Int))),(List.set a.2 (Int.toNat a.1) (List.drop (Int.toNat (0:Int)) (List.take (Int.toNat (4:Int)) (at' c a.1)))))))))else(rR U d c (a.2))
def fG (U:Nat) (b:cE) (a:bF):Option (Bool):=
 Option.bind (iW U ((b.1,b.2)) a) λc=>(if(!c)=true then(oF U b a (true))else(ck (0<=(List.length a:Int)∧(List.length a:Int)<=1099511627) (bJ (oG U b a) U ((0:Int),(List.replicate (Int.toNat (List.length a:Int)) ([]:aQ))))))
theorem WL:aX Tryz.prog 15:=Tryz.call15
theorem Cc (U:Nat) {p0:cE} {p1:bF} (p:Value)  (q:Value)  (y:k_)  (u:Value)  (z:rB) (r:Bool) (h:fG U p0 p1=some r):
  aY Tryz.prog 15 #[Value.agg #[p,q],u] [Sl bO p p0.1,S2 bB q y p0.2,S2 bO u z p1] (λx:Unit=>vB (r)) (λx l=>l) (λ_ l=>l):=by
 refine aY.of Tryz.func15 Z Tryz.ntmps15 Z λc=>?_;refine aV<|aH (aN.box (cs:=[p,q]) Z Z) Z λD=>aE Z<|aM<|aK<|aK<|dO (λC=>oF U p0 p1 C=some r) (λC S=>[(1,u),(2,vP D),(17,vB (C))]) (λC S=>[bV D [p,q] 28]) ?_ ?_
 ·refine JR.start [0,0,3,7,15,31,31,95,255,511,1023] 8 mixedOrders (by decide +kernel) ?_;refine JR.open (by exact rfl) ?_;refine pX 0 Z<|bG Z<|fH h λO P h=>JR.loud Z Z Z (aN.callQ adf (BE U p q y u z O P) Z (oS [0,1,2] Z)) Z (λR=>(wF [] Z)) λR=>jS Z (oQ Z)<|jS Z (iG Z) ?_;refine JR.guard (by exact rfl) (by exact rfl) (by exact rfl) (λs=>?_) (λs=>?_)
  ·have h:=LP s h;refine cO Z Z Z Z<|cO Z Z Z Z<|cO Z Z Z Z<|bP 8 Z Z<|aI Z<|aI Z<|dW Z<|aM ?_;exact iB (true) () h SF Z
  have h:=Gr s h;refine iM Z (a_.cons 0 Z .nil) .nil (iN 0 Z Z Z Z) (VP Z)<|iM Z .nil .nil (iG Z) (VP Z)<|Ob (A:=bF) (B:=Ip) (vs:=[u]) (λg=>Bq U p0 p1 g=some r) (λg b=>b.1) (λg b=>[Ar dA.raw b.1 b.2,bV D [p,q] 28]) (λg b=>[Wu bO b.2 g,Sl bO p p0.1,S2 bB q y p0.2,S2 bO u z p1]) Z Z Z Z (tG.fn (show aX Tryz.prog 33 from Tryz.call33) Z) Tryz.func33 Z Tryz.ntmps33 Z Z (λ_ _=>(wF [([1],[])] Z)) ?_ ?_
  ·refine aV<|aE Z<|aM<|aV<|aA Z<|aB (iF Z (aF.fact 2 Z) Z) Z<|cX h λN h=>SO bO (Int.toNat (List.length p1:Int))<|aH (mH (e:=dA.raw) (lC) Z Z Z Z N Z Z Z) Z λt=>aE Z<|aM<|aK<|Bu (B:=fV) (λm=>rR U p0 p1 m=some r) (λm n=>[(3,t)]) (λm n=>[Ar dA.raw t n,bV D [p,q] 28]) (λm n=>[Wu bO n m,Sl bO p p0.1,S2 bB q y p0.2,S2 bO u z p1]) ?_ ?_
   ·refine aV<|aA Z<|aB (iF Z (aF.fact 3 Z) Z) Z<|aA Z<|aM<|aS<|Ev (B:=fV) (oG U p0 p1) (λa d=>[(3,t),(9,u),(10,vI (List.length p1:Int)),(11,vI (a.1))]) (λa d=>[Ar dA.raw t d,bV D [p,q] 28]) (λa d=>[Wu bO d a.2,Sl bO p p0.1,S2 bB q y p0.2,S2 bO u z p1]) ((0:Int),(List.replicate (Int.toNat (List.length p1:Int)) ([]:aQ))) (List.replicate (Int.toNat (List.length p1:Int)) (lC)) h SF (a_.refl _) (aG.refl _ _) ?_;intro W a d h;refine aV<|cM Z<|aM<|aK ?_;refine eV h Z (λh=>?_) λh=>?_
    ·refine cK<|aK<|aS<|aV<|aA Z<|cX h λf h=>aB (bX Z Z (aF.fact 3 Z) Z Z f) Z<|aB (bW Z (aF.fact 3 Z) Z Z f) Z<|aE Z<|aE Z<|aM<|aR<|aA Z<|aA Z<|aA Z<|cX h λw h=>aB (Lu Z Z Z Z (aF.el (aF.fact 3 Z) f.1 f.2) Z Z w) Z<|cX h λI h=>aB (bX Z Z (Ch (i:=0) (j:=0) Z Z) Z Z I) Z<|cG (Know.one ((Cg (aF.el (aF.fact 3 Z) f.1 f.2) Z w))) λF=>Lk 0 0 I Z Z Z Z F Z<|SS (k:=Int.toNat a.1) 0 (vs:=d) Z (Cg (aF.el (aF.fact 3 Z) f.1 f.2) Z w)<|eI<|mA<|aR<|cH Z<|aA Z<|aM ?_;exact xT ((wI .i64 (a.1+(1:Int))),(List.set a.2 (Int.toNat a.1) (List.drop (Int.toNat (0:Int)) (List.take (Int.toNat (4:Int)) (at' p1 a.1))))) (List.set d (Int.toNat a.1) (sl3 ((at' z a.1).1) (Int.toNat (0:Int)) (Int.toNat (4:Int)) (Int.toNat (4:Int)) 1)) h SF Z
    refine e_ ?_;exact iB (a.2) (d) h SF Z
   intro m n h;unfold rR at h;refine aV<|aA Z<|aE Z<|aM<|aW ?_;exact tJ (m) (t,n) h (.inl Z) (Hb.r1 Z (RV.tmp Z)) Z (a_.refl _) (aG.refl _ _)
  intro g b h;refine bP 8 Z Z<|fH h λJ Q h=>nF Z (aN.callQ adg (NO U p q y b.1 (List.zip b.2 g) J Q) Z (aG.cons (aF.fact 1 Z) (aG.cons (aF.fact 2 Z) (aG.cons (Ch (i:=0) (j:=0) Z Z) .nil)))) Z λY=>aP Z (oQ Z) Z<|fO Z<|aM ?_;exact cC ((!J)) () h SF (a_.ix [1] Z Z) (oS [1,2,3] Z)
 intro C S h;refine AZ h Z (λ_ h=>?_) λ_ h=>?_
 ·refine aV<|aE Z<|aM<|aW<|aJ ?_;cases h;exact tU Z
 refine cK<|aK<|dO (λL=>xH  L=some r) (λL T=>[]) (λL T=>[]) ?_ ?_
 ·refine aV<|eK 0 Z<|aA Z<|fH h λM X h=>aH (aN.callQ adh (IC U p q y u z M X) Z (oS [0,1,2] Z)) Z λK=>aB (fX Z (bD (aF.res 0 Z) dJ) Z) Z<|aA Z<|aM<|aS<|dU (iR p1 M) (λv E=>[(1,u),(20,K),(21,vI (List.length M:Int)),(22,vI (v))]) (λv E=>[Ar bZ K M]) (0:Int) () h SF (a_.ix [0] Z Z) ?_;intro V v E h;refine aV<|cM Z<|aM<|aK ?_;refine eV h Z (λh=>?_) λh=>?_
  ·refine cK<|aK<|aS<|aV<|aA Z<|cX h λG h=>aB (aZ Z Z (bD (aF.res 0 Z) dJ) Z Z G) Z<|aB (bQ Z (bD (aF.res 0 Z) dJ) Z Z Z cQ G) Z<|aE Z<|aE Z<|aM<|aV<|aA Z<|aA Z<|cX h λo h=>aB (bX Z Z (aF.fact 2 Z) Z Z o) Z<|aB (bW Z (aF.fact 2 Z) Z Z o) Z<|cX h λH h=>aB (aZ Z Z (aF.el (aF.fact 2 Z) o.1 o.2) Z Z H) Z<|aB (bQ Z (aF.el (aF.fact 2 Z) o.1 o.2) Z Z Z cQ H) Z<|aA Z<|q_ Z<|aM ?_;refine eV h Z (λh=>?_) λh=>?_
   ·refine aV<|aE Z<|aM<|aW<|bM<|aJ<|aJ<|bM<|aJ ?_;cases h;exact tU Z
   refine dK<|mA<|aR<|cH Z<|aA Z<|aM ?_;exact xT (wI .i64 (v+(1:Int))) () h SF Z
  refine e_ ?_;exact cC () (()) h SF .nil (aG.refl _ _)
 intro L T h;unfold xH at h;refine aV<|aE Z<|aM<|aW ?_;cases h;exact lA Z
end Go.Proofs.YtlkhndebimcbbaaGreatDoor
section
set_option maxRecDepth 100000
namespace Go.Gx
open Go Go.Sx Go.Proofs Go.Proofs.YtlkhndebimcbbaaGreatDoor
noncomputable section
def agO (a:List GV) (H:GH):OR:=a1 a λb=>ob (Rp H b) λp0=>ob (h_ 1000 p0) λr=>TT r H
def agM (a:List GV) (H:GH):OR:=a2 a λb c=>ob (agw H b) λp0=>ob (dSc .i64 c) λp1=>ob (mT 1000 p0 p1) λr=>Sb r H
def acl (a:List GV) (H:GH):OR:=a4 a λb c d e=>ob (Xk H b) λp0=>ob (dSc .i64 c) λp1=>ob (dSc .u32 d) λp2=>ob (dSc .u32 e) λp3=>ob (fR 1000 p0 p1 p2 p3) λr=>TT r H
def agN (a:List GV) (H:GH):OR:=a4 a λb c d e=>ob (Xk H b) λp0=>ob (dSc .i64 c) λp1=>ob (dSc .u32 d) λp2=>ob (dSc .u32 e) λp3=>ob (eS 1000 p0 p1 p2 p3) λr=>some (.int .u32 r,H)
def agL (a:List GV) (H:GH):OR:=a2 a λb c=>ob (Rp H b) λp0=>ob (aci H c) λp1=>ob (fG 1000 p0 p1) λr=>TT r H
def XI (f:Nat) (a:List GV) (H:GH):Option (GV×GH):=bif Nat.beq f 87 then agO a H else bif Nat.beq f 22 then agM a H else bif Nat.beq f 110 then acl a H else bif Nat.beq f 80 then agN a H else bif Nat.beq f 15 then agL a H else none
abbrev gl:Nat->y_:=glb 0 (cellsOf HU xM)
def gp:GP:=⟨wA,70,XI,XH 192⟩
section
variable {T:Nat} {w0:eL (gl T)} {w:World} {ρ:dM} {H H':GH} {g:GV} {us:List GV} {vs:List Value}
theorem abg (h:agO us H=some (g,H')) (R:fJ w0 ρ H w) (m:oV ρ us vs):kI Tryz.prog w0 ρ 87 vs w g H':=by
 obtain⟨p,rfl,h⟩:=S_ h;obtain⟨j,c,h⟩:=aD.1 h;obtain⟨r,l,h⟩:=aD.1 h;obtain⟨o,rfl,d⟩:=m.one;obtain⟨e,i,n,rfl,a,b⟩:=LA R d c;obtain⟨rfl,rfl⟩:=FH h;exact Cy MV (yW 1000 (p0:=j) e i n r l) R (List.forall_mem_cons.2 ⟨a,List.forall_mem_cons.2 ⟨b,λf k=>absurd k List.not_mem_nil⟩⟩) λρ=> .bool _
theorem abe (h:agM us H=some (g,H')) (R:fJ w0 ρ H w) (i:oV ρ us vs):kI Tryz.prog w0 ρ 22 vs w g H':=by
 obtain⟨z,A,rfl,h⟩:=MK h;obtain⟨o,d,h⟩:=aD.1 h;obtain⟨p,e,h⟩:=aD.1 h;obtain⟨r,v,h⟩:=aD.1 h;obtain⟨x,vs,rfl,j,i⟩:=i.of_cons;obtain⟨y,rfl,k⟩:=i.one;obtain⟨l,m,n,rfl,a,b,c⟩:=aaO R j d;obtain rfl:=DU k e;obtain⟨q,s,t,rfl,rfl⟩:=Pz h;exact RF agB agC q s t WN (AQ 1000 (p0:=o) (p1:=p) l m n r v) R (List.forall_mem_cons.2 ⟨a,List.forall_mem_cons.2 ⟨b,List.forall_mem_cons.2 ⟨c,λf u=>absurd u List.not_mem_nil⟩⟩⟩)
theorem XU (h:acl us H=some (g,H')) (R:fJ w0 ρ H w) (a:oV ρ us vs):kI Tryz.prog w0 ρ 110 vs w g H':=by
 obtain⟨z,A,B,C,rfl,h⟩:=ML h;obtain⟨m,b,h⟩:=aD.1 h;obtain⟨n,c,h⟩:=aD.1 h;obtain⟨o,d,h⟩:=aD.1 h;obtain⟨p,e,h⟩:=aD.1 h;obtain⟨r,u,h⟩:=aD.1 h;obtain⟨q,vs,rfl,i,a⟩:=a.of_cons;obtain⟨v,vs,rfl,j,a⟩:=a.of_cons;obtain⟨x,vs,rfl,k,a⟩:=a.of_cons;obtain⟨y,rfl,l⟩:=a.one;have s:=OV R i b;obtain rfl:=DU j c;obtain rfl:=DU k d;obtain rfl:=DU l e;obtain⟨rfl,rfl⟩:=FH h;exact Cy Td (xI 1000 (p0:=m) (p1:=n) (p2:=o) (p3:=p) q r u) R (List.forall_mem_cons.2 ⟨s,List.forall_mem_cons.2 ⟨R.glb,λf t=>absurd t List.not_mem_nil⟩⟩) λρ=> .bool _
theorem abf (h:agN us H=some (g,H')) (R:fJ w0 ρ H w) (a:oV ρ us vs):kI Tryz.prog w0 ρ 80 vs w g H':=by
 obtain⟨z,A,B,C,rfl,h⟩:=ML h;obtain⟨m,b,h⟩:=aD.1 h;obtain⟨n,c,h⟩:=aD.1 h;obtain⟨o,d,h⟩:=aD.1 h;obtain⟨p,e,h⟩:=aD.1 h;obtain⟨r,u,h⟩:=aD.1 h;obtain⟨q,vs,rfl,i,a⟩:=a.of_cons;obtain⟨v,vs,rfl,j,a⟩:=a.of_cons;obtain⟨x,vs,rfl,k,a⟩:=a.of_cons;obtain⟨y,rfl,l⟩:=a.one;have s:=OV R i b;obtain rfl:=DU j c;obtain rfl:=DU k d;obtain rfl:=DU l e;cases h;exact Cy WX (xJ 1000 (p0:=m) (p1:=n) (p2:=o) (p3:=p) q r u) R (List.forall_mem_cons.2 ⟨s,List.forall_mem_cons.2 ⟨R.glb,λf t=>absurd t List.not_mem_nil⟩⟩) λρ=> .int _ _
theorem abd (h:agL us H=some (g,H')) (R:fJ w0 ρ H w) (e:oV ρ us vs):kI Tryz.prog w0 ρ 15 vs w g H':=by
 obtain⟨x,y,rfl,h⟩:=MK h;obtain⟨m,c,h⟩:=aD.1 h;obtain⟨n,d,h⟩:=aD.1 h;obtain⟨r,s,h⟩:=aD.1 h;obtain⟨v,vs,rfl,i,e⟩:=e.of_cons;obtain⟨o,rfl,j⟩:=e.one;obtain⟨k,l,t,rfl,a,b⟩:=LA R i c;obtain⟨u,p⟩:=Xi R j d;obtain⟨rfl,rfl⟩:=FH h;exact Cy WL (Cc 1000 (p0:=m) (p1:=n) k l t o u r s) R (List.forall_mem_cons.2 ⟨a,List.forall_mem_cons.2 ⟨b,List.forall_mem_cons.2 ⟨p,λf q=>absurd q List.not_mem_nil⟩⟩⟩) λρ=> .bool _
theorem Ni {f:Nat} (h:XI f us H=some (g,H')) (R:fJ w0 ρ H w) (a:oV ρ us vs):kI Tryz.prog w0 ρ f vs w g H':=by
 unfold XI at h;cases b:Nat.beq f 87 with
 |true=>rw[b]at h;rw[Nat.eq_of_beq_eq_true b];exact abg h R a
 |false=>
 rw[b]at h;cases c:Nat.beq f 22 with
 |true=>rw[c]at h;rw[Nat.eq_of_beq_eq_true c];exact abe h R a
 |false=>
 rw[c]at h;cases d:Nat.beq f 110 with
 |true=>rw[d]at h;rw[Nat.eq_of_beq_eq_true d];exact XU h R a
 |false=>
 rw[d]at h;cases e:Nat.beq f 80 with
 |true=>rw[e]at h;rw[Nat.eq_of_beq_eq_true e];exact abf h R a
 |false=>
 rw[e]at h;cases i:Nat.beq f 15 with
 |true=>rw[i]at h;rw[Nat.eq_of_beq_eq_true i];exact abd h R a
 |false=>
 rw[i]at h;cases h
end
theorem adZ:agA Tryz.prog wA=true:=by kernel_rfl
theorem Jb:eZ Tryz.prog wA:=⟨Ql,adY adZ⟩
theorem aeC {a:y_} (b:eL a):rT Tryz.prog b (Ly wA 96 Tryz.f96):=Xa Jb mixedOrders Tryz.func96 Tryz.call96 (by kernel_rfl)
theorem adS (a:Array Value) (w:World) (c:a.size=2):CallsDIn (FR none) 0 Tryz.prog 95 a .returning w λe f g=>∃v,e = .returned v∧f = .returning∧MC w g:=by
 obtain⟨d,h,b⟩:=Yt (r:=EZ wA (Ly wA 96 Tryz.f96) (MW Tryz.f95) (evC wA (Ly wA 96 Tryz.f96) (λ_ _ _ _=>none) (WZ Tryz.f95) 0 ⟨[],0,[]⟩ (GE [])) (MW Tryz.f95).tail ⟨[(aaK Tryz.f95,.inil)],H0⟩) (by kernel_rfl);exact US (ch:=Ly wA 96 Tryz.f96) (lp:=λ_ _ _ _=>none) Jb mixedOrders aeC Ic Tryz.func95 Z Z Z (by decide +kernel) (λi w=>by simp[execOp,resolve,invoke,builtin]) (by kernel_rfl) (by kernel_rfl) Z (by rw[c];decide +kernel) h b
theorem agD {i:y_} {a:FuncId->List GV->GH->Option (GV×GH)} (o:∀(b:eL i) {f us H g H'},a f us H=some (g,H')->∀c w d,fJ b c H w->oV c us d->kI Tryz.prog b c f d w g H') (b:eL i):Uy Tryz.prog ⟨wA,70,a,XH 192⟩ HK.fns b:=by
 refine⟨Jb,mixedOrders,λh=> ?_,o b,λh c w d H R n=>aba Tryz.func192 Z Z Z Z h c w d H R n,λR l j k=> ?_⟩
 ·obtain⟨e,m,h⟩:=aD.1 (show ob (Ub _) _=some _ from h);cases h;obtain⟨p,q,r⟩:=YJ m;exact⟨p,q,PC r⟩
 ·exact adK (tb:=wA) (T1:=3) (T2:=67) (cc:=95) Jb Tryz.func70 Tryz.call70 Tryz.call95 Z Z Z (Ta (by kernel_rfl)) (Ta (by kernel_rfl)) (Uh Z Z) (Uh Z Z) (Yf Z Z) (Yf Z Z) adS R l j k
theorem XK {T:Nat} (a:eL (gl T)):Uy Tryz.prog gp HK.fns a:=agD (λa f d H g c h i w e R b=>Ni h R b) a
def gp0:GP:=⟨wA,70,λ_ _ _=>none,XH 192⟩
theorem ajH (a:eL noG):Uy Tryz.prog gp0 HK.fns a:=agD (λa f c H g b h=>by cases h) a
end
end Go.Gx
end
namespace Go.Gx
open Go Go.Sx Go.RowKit
mutual
def GM (k:Nat):GV->GV
 | .ptr h o=> .ptr (k+h) o
 | .sl h o l s=> .sl (k+h) o l s
 | .map h=> .map (k+h)
 | .fn f a b=> .fn f (VR k a) (VR k b)
 | .agg cs=> .agg (VR k cs)
 | .tup vs=> .tup (VR k vs)
 | .int a b=> .int a b
 | .bool b=> .bool b
 | .str a b=> .str a b
 | .pnil=> .pnil
 | .snil=> .snil
 | .fnil=> .fnil
 | .inil=> .inil
 | .un=> .un
 | .bad=> .bad
 | .opn h=> .opn (k+h)
def VR (k:Nat):List GV->List GV
 | []=>[]
 |v::r=>GM k v::VR k r
end
theorem NB (k:Nat):∀(l:List GV) (i:Nat),(VR k l)[i]? = (l[i]?).map (GM k)
 | [],i=>rfl
 |v::r,0=>rfl
 |v::r,i+1=>by simpa [VR]using NB k r i
theorem EL (k:Nat):∀(l:List GV),(VR k l).length=l.length
 | []=>rfl
 |v::r=>by simp[VR,EL k r]
def Zz (k:Nat):GO->GO
 | .cells cs=> .cells (VR k cs)
 | .mp es=> .mp (es.map λe=>(GM k e.1,GM k e.2))
def AO (k:Nat) (l:Lo):Lo:={l with o:=Zz k l.o}
theorem Rl.shift {y e:dM} {k:Nat} (c:∀h l,y h=some l->e (k+h)=some (AO k l)) {g:GV} {v:Value} (h:Rl y g v):Rl e (GM k g) v:=by
 have d:∀{u:List GV} {j:fV},(∀(i:Nat) g v,u[i]? = some g->j[i]? = some v->Rl e (GM k g) v)->∀(i:Nat) g v,(VR k u)[i]? = some g->j[i]? = some v->Rl e g v:=by
  intro u j D i g v x E;rw[NB]at x;obtain⟨z,A,rfl⟩:=Option.map_eq_some_iff.1 x;exact D i z v A E
 induction h with
 |int a n=>simp only[GM];exact .int a n
 |bool b=>simp only[GM];exact .bool b
 |str s=>simp only[GM];exact .str s
 |ptr t h=>simp only[GM];exact .ptr (l:=AO k _) t (c _ _ h)
 |pnil=>simp only[GM];exact .pnil
 |sl h C B=>simp only[GM];exact .sl (l:=AO k _) (c _ _ h) C B
 |snil=>simp only[GM];exact .snil
 |map h=>simp only[GM];exact .map (l:=AO k _) (c _ _ h)
 |fn f m w o G q r=>simp only[GM];exact .fn f (by rw[EL];exact m) (d q) (by rw[EL];exact o) (d r)
 |fnil=>simp only[GM];exact .fnil
 |inil=>simp only[GM];exact .inil
 |agg m w o p=>simp only[GM];exact .agg (by rw[EL];exact m) (d p) o
 |tup m w p=>simp only[GM];exact .tup (by rw[EL];exact m) (d p)
 |un=>simp only[GM];exact .un
 |bad v=>simp only[GM];exact .bad v
 |opn v h F=>simp only[GM];exact .opn (l:=AO k _) v (c _ _ h) F
abbrev OL:=List (Nat×Nat×GO)
def VQ:OL->Nat->Option (Nat×GO)
 | [],_=>none
 |x::r,h=>if h=x.1 then some x.2 else VQ r h
theorem Np {b:OL} {h:Nat} {p:Nat×GO} (a:VQ b h=some p):(h,p)∈b:=by
 induction b with
 |nil=>cases a
 |cons x r c=>
  simp only[VQ]at a;split at a
  ·rename_i e;cases a;subst e;exact List.mem_cons_self
  ·exact List.mem_cons_of_mem _ (c a)
noncomputable def PL (k:Nat) (t:Tr (Nat×GO)):OL->Tr (Nat×GO)
 | []=>t
 |x::r=>(PL k t r).set (some (k+x.2.1,Zz k x.2.2)) (k+x.1)
noncomputable def abG:OL->Tr (Nat×GO)
 | []=> .lf
 |x::r=>(abG r).set (some x.2) x.1
theorem Ea:∀(a:OL) (h:Nat),(abG a).get h=VQ a h
 | [],h=>rfl
 |x::r,h=>by
  show((abG r).set (some x.2) x.1).get h=_;rw[rX];simp only[VQ];split
  ·rfl
  ·exact Ea r h
theorem Ks (k:Nat) (t:Tr (Nat×GO)):∀(b:OL) (h:Nat),(PL k t b).get h=if k<=h then(match VQ b (h - k)with|some p=>some (k+p.1,Zz k p.2)|none=>t.get h)else t.get h
 | [],h=>by simp[PL,VQ]
 | x :: r, h => by
  show((PL k t r).set (some (k+x.2.1,Zz k x.2.2)) (k+x.1)).get h=_;rw[rX,Ks k t r h];by_cases e:h=k+x.1
  ·subst e;rw[if_pos Z,if_pos (by omega)];simp[VQ]
  ·rw[if_neg e];by_cases a:k<=h
   ·rw[if_pos a,if_pos a];simp only[VQ];rw[if_neg (show¬h - k=x.1 by omega)]
   ·rw[if_neg a,if_neg a]
noncomputable def IX (n:Nat) (a:OL):GH:=⟨n,abG a⟩
noncomputable def GH.load (H:GH) (n:Nat) (a:OL):GH:=⟨H.n+n,PL H.n H.t a⟩
section
variable {gs:y_} {w0:eL gs} {w w':World} {ρ ρ2:dM} {H:GH} {n:Nat} {os:OL}
theorem gT {H:GH} {h:Nat} {o:GO}:H.get h=some o↔∃v,H.t.get h=some (v,o):=by
 unfold GH.get;cases c:H.t.get h with
 |none=>simp[ob]
 |some p=>obtain⟨a,b⟩:=p;simp[ob]
theorem rV {H:GH} {h v:Nat}:H.ver h=some v↔∃o,H.t.get h=some (v,o):=by
 unfold GH.ver;cases c:H.t.get h with
 |none=>simp[ob]
 |some p=>obtain⟨a,b⟩:=p;simp[ob]
theorem fJ.sub {d:GH} (R:fJ w0 ρ H w) (z:d.n=H.n) (m:∀h p,d.t.get h=some p->H.t.get h=some p):fJ w0 ρ d w:=by
 have g:∀h o,d.get h=some o->H.get h=some o:=λh o i=>by
  obtain⟨v,j⟩:=gT.1 i;exact gT.2 ⟨v,m _ _ j⟩
 refine⟨R.ext,λh o i=>R.live h o (g h o i),λh q o y l u e f=>R.inj h q o y l u (g _ _ e) (g _ _ f),λh r=>R.fresh h (by omega),λh r=>R.dense h (by omega),λh v l j s=> ?_,R.env⟩
 obtain⟨o,k⟩:=rV.1 j;obtain⟨x,a,b,c⟩:=R.vers h v l (rV.2 ⟨o,m _ _ k⟩) s;refine⟨x,a,b,?_⟩
 have e:=gT.2 ⟨v,k⟩;have f:=g _ _ e;rw[c]at f;cases f;exact e
theorem xQ.shift {l:Lo} {o:GO} {f:dM} {k:Nat} (d:∀h l,ρ2 h=some l->f (k+h)=some (AO k l)) (h:xQ ρ2 w l o):xQ f w (AO k l) (Zz k o):=by
 cases o with
 |cells z=>
  obtain⟨j,T,r,s,t,y⟩:=h;refine⟨j,T,r,s,by rw[EL];exact t,λi g e=> ?_⟩
  rw[NB]at e;obtain⟨p,q,rfl⟩:=Option.map_eq_some_iff.1 e;obtain⟨v,a,b,c⟩:=y i p q;exact⟨v,a,b.shift d,c⟩
 |mp A=>
  obtain⟨x,u,r,s,t⟩:=h;refine⟨x,u,r,by simpa [Zz]using s,λi g e=> ?_⟩
  rw[List.getElem?_map]at e;obtain⟨p,q,rfl⟩:=Option.map_eq_some_iff.1 e;obtain⟨m,a,b,c⟩:=t i p q;exact⟨m,a,b.shift d,c.shift d⟩
theorem fJ.join {Y:y_} {hb:HV Y w λ_=>False} (R:fJ w0 ρ H w) (M:fJ (eL.of w hb) ρ2 (IX n os) w'):
  ∃s:dM,ρ.le s∧fJ w0 s (H.load n os) w'∧∀g v,Rl ρ2 g v->Rl s (GM H.n g) v:=by
 let s:dM:=λh=>if h<H.n then ρ h else(ρ2 (h - H.n)).map (AO H.n);have G:ρ.le s:=λh l f=>by
  have ac:h<H.n:=by
   rcases Nat.lt_or_ge h H.n with q|q
   ·exact q
   ·rw[R.fresh h q]at f;cases f
  show(if h<H.n then ρ h else _)=_;rw[if_pos ac];exact f
 have K:∀h l,ρ2 h=some l->s (H.n+h)=some (AO H.n l):=λh l f=>by
  show(if H.n+h<H.n then _ else _)=_;rw[if_neg (by omega),show H.n+h - H.n=h by omega,f];rfl
 have k:∀h,h<H.n->s h=ρ h:=λh u=>by show(if h<H.n then ρ h else _)=_;rw[if_pos u]
 have d:∀h,H.n<=h->s h=(ρ2 (h - H.n)).map (AO H.n):=λh u=>by show(if h<H.n then ρ h else _)=_;rw[if_neg (by omega)]
 have J:∀h,H.n<=h->H.t.get h=none:=λh u=>by
  cases y:H.t.get h with
  |none=>rfl
  |some p=>exact absurd (R.lt (gT.2 ⟨p.1,y⟩)) (by omega)
 have X:∀h,h<H.n->(H.load n os).t.get h=H.t.get h:=λh u=>by
  show(PL H.n H.t os).get h=_;rw[Ks,if_neg (by omega)]
 have gh:∀h p,H.n<=h->(H.load n os).t.get h=some p->∃x,(IX n os).t.get (h - H.n)=some x∧p=(H.n+x.1,Zz H.n x.2):=λh p u hp=>by
  have A:(PL H.n H.t os).get h=some p:=hp;rw[Ks,if_pos u,J h u]at A;cases hk:VQ os (h - H.n)with
  |none=>rw[hk]at A;cases A
  |some x=>rw[hk]at A;cases A;exact⟨x,(Ea os _).trans hk,rfl⟩
 have W:MC w w':=M.ext.ext;have L:∀l:Lo,(eL.of w hb).mine l.b->w.heap.size<=l.b:=λl h=>by
  rcases h with h|h
  ·exact h
  ·exact h.elim
 have r:∀h o,h<H.n->(H.load n os).get h=some o->∃l,ρ h=some l∧w0.mine l.b∧xQ ρ w l o∧H.get h=some o:=λh o u y=>by
  obtain⟨v,N⟩:=gT.1 y;rw[X h u]at N;have z:=gT.2 ⟨v,N⟩;obtain⟨l,a,b,c⟩:=R.live h o z;exact⟨l,a,b,c,z⟩
 have m:∀h o,H.n<=h->(H.load n os).get h=some o->∃l O,ρ2 (h - H.n)=some l∧w.heap.size<=l.b∧xQ ρ2 w' l O∧o=Zz H.n O∧(IX n os).get (h - H.n)=some O:=λh o u y=>by
  obtain⟨v,N⟩:=gT.1 y;obtain⟨x,E,e⟩:=gh h _ u N;cases e;have z:(IX n os).get (h - H.n)=some x.2:=gT.2 ⟨x.1,E⟩;obtain⟨l,a,b,c⟩:=M.live _ _ z;exact⟨l,x.2,a,L l b,c,rfl,z⟩
 refine⟨s,G,⟨R.ext.trans W,λh o y=> ?_,λh B o U l l' V E f j F=> ?_,λh u=> ?_,λh u=> ?_,λh v l N f=> ?_,λi v e=>let ⟨l,a,b⟩:=R.env i v e;⟨l,G _ _ a,b⟩⟩,λg v y=>y.shift K⟩
 ·rcases Nat.lt_or_ge h H.n with q|q
  ·obtain⟨l,a,b,c,_⟩:=r h o q y;exact⟨l,by rw[k h q];exact a,b,c.move G (W.block _ c.lt)⟩
  ·obtain⟨l,O,a,b,c,rfl,_⟩:=m h o q y;exact⟨AO H.n l,by rw[d h q,a];rfl,.inl (Nat.le_trans R.ext.size b),c.shift K⟩
 ·rcases Nat.lt_or_ge h H.n with q|q<;>rcases Nat.lt_or_ge B H.n with I|I
  ·obtain⟨l1,C,_,_,P⟩:=r h o q V;obtain⟨T,D,_,_,Q⟩:=r B U I E;rw[k h q,C]at f;rw[k B I,D]at j;cases f;cases j;exact R.inj h B o U _ _ P Q C D F
  ·obtain⟨l1,C,_,c1,P⟩:=r h o q V;obtain⟨T,O,D,b2,_,rfl,Q⟩:=m B U I E;rw[k h q,C]at f;rw[d B I,D]at j;cases f;cases j;have:=c1.lt;simp only[AO]at F;omega
  ·obtain⟨l1,o1,C,b1,_,rfl,P⟩:=m h o q V;obtain⟨T,D,_,c2,Q⟩:=r B U I E;rw[d h q,C]at f;rw[k B I,D]at j;cases f;cases j;have:=c2.lt;simp only[AO]at F;omega
  ·obtain⟨l1,o1,C,b1,_,rfl,P⟩:=m h o q V;obtain⟨T,O,D,b2,_,rfl,Q⟩:=m B U I E;rw[d h q,C]at f;rw[d B I,D]at j;cases f;cases j;have:=M.inj _ _ _ _ _ _ P Q C D F;omega
 ·have aa:H.n+n<=h:=u;rw[d h (by omega),M.fresh (h - H.n) (by show n<=_;omega)];rfl
 ·have aa:h<H.n+n:=u;rcases Nat.lt_or_ge h H.n with q|q
  ·obtain⟨l,f⟩:=R.dense h q;exact⟨l,by rw[k h q];exact f⟩
  ·obtain⟨l,f⟩:=M.dense (h - H.n) (by show _<n;omega);exact⟨AO H.n l,by rw[d h q,f];rfl⟩
 ·obtain⟨o,S⟩:=rV.1 N;rcases Nat.lt_or_ge h H.n with q|q
  ·rw[X h q]at S;rw[k h q]at f;obtain⟨lv,a,b,c⟩:=R.vers h v l (rV.2 ⟨o,S⟩) f;have y:=gT.2 ⟨v,S⟩;obtain⟨l',j,_,ck⟩:=R.live h o y;rw[f]at j;cases j;refine⟨lv,G _ _ a,by rw[W.block _ ck.lt];exact b,?_⟩
   obtain⟨v2,ad⟩:=gT.1 c;exact gT.2 ⟨v2,by rw[X h q];exact ad⟩
  ·obtain⟨x,E,e⟩:=gh h _ q S;cases e;rw[d h q]at f;obtain⟨T,ab,rfl⟩:=Option.map_eq_some_iff.1 f;obtain⟨lv,a,b,c⟩:=M.vers (h - H.n) x.1 T (rV.2 ⟨x.2,E⟩) ab;refine⟨AO H.n lv,K _ _ a,b,?_⟩
   have h3:(IX n os).get (h - H.n)=some x.2:=gT.2 ⟨x.1,E⟩;rw[c]at h3;have h4:=Option.some.inj h3;exact gT.2 ⟨_,by rw[S,<-h4];rfl⟩
end
theorem Xs {a b:Nat×Nat} (h:QF a b=true):a=b:=by
 obtain⟨f,d⟩:=a;obtain⟨g,e⟩:=b;unfold QF at h;cases c:Nat.beq d e with
 |false=>simp[c]at h
 |true=>
  simp only[c,cond_true]at h;rw[Nat.eq_of_beq_eq_true h,Nat.eq_of_beq_eq_true c]
theorem Sj {c:dM} {n l:Nat} {x:ByteArray} (a:n=lP (bL x)) (b:l=(bL x).length):Rl c (.str n l) (.string x):=by
 rw[a,b];exact .str x
def isS (a:List GV) (p:Nat×Nat):Bool:=List.casesOn (motive:=λ_=>Bool) a false λu r=>List.casesOn (motive:=λ_=>Bool) r (Option.casesOn (motive:=λ_=>Bool) (GV.asStr u) false λs=>QF s p) λ_ _=>false
theorem XW {b:List GV} {p:Nat×Nat} (h:isS b p=true):b=[.str p.1 p.2]:=by
 cases b with
 |nil=>cases h
 | cons u r =>
  cases r with
  |cons _ _=>cases h
  | nil =>
   cases a:GV.asStr u with
   |none=>simp[isS,a]at h
   |some s=>
    have:QF s p=true:=by simpa [isS,a]using h
    rw[pM a,Xs this]
noncomputable section
def YA (H:GH) (a:List Nat):Option OL:=List.rec (motive:=λ_=>Option OL) (some []) (λh _ b=>ob (H.t.get h) λp=>ob b λr=>some ((h,p.1,p.2)::r)) a
theorem HE {H:GH}:∀{c:List Nat} {b:OL},YA H c=some b->∀x∈b,H.t.get x.1=some x.2
 | [],b,h,x,a=>by cases h;cases a
 |h0::c,b,h,x,a=>by
  obtain⟨p,d,h⟩:=aD.1 (show ob (H.t.get h0) (λp=>ob (YA H c) λr=>some ((h0,p.1,p.2)::r))=some b from h);obtain⟨r,e,h⟩:=aD.1 h;cases h;rcases List.mem_cons.1 a with rfl|a
  ·exact d
  ·exact HE e x a
def TN (T:Gc) (G:GP) (a f:Nat) (d:List GV) (b:List Nat):Option (GV×Nat×OL):=ob (JC T G a f d H0) λr=>ob (YA r.2 b) λc=>some (r.1,r.2.n,c)
def shK {R:Type} (k:Nat) (v:GV) (f:GV->R):R:=GV.casesOn (motive_1:=λ_=>R) v (λa b=>f (.int a b)) (λb=>f (.bool b)) (λa b=>f (.str a b)) (λh o=>sn (Nat.add k h) λh=>f (.ptr h o)) (f .pnil) (λh o l s=>sn (Nat.add k h) λh=>f (.sl h o l s)) (f .snil) (λh=>sn (Nat.add k h) λh=>f (.map h)) (λa b c=>f (GM k (.fn a b c))) (f .fnil) (f .inil) (λd=>f (GM k (.agg d))) (λe=>f (GM k (.tup e))) (f .un) (f .bad) (λh=>sn (Nat.add k h) λh=>f (.opn h))
theorem YR {R:Type} (k:Nat) (v:GV) (f:GV->R):shK k v f=f (GM k v):=by
 cases v<;>simp[shK,vZ,GM]
def aeJ {R:Type} (k:Nat) (l:List GV):(List GV->R)->R:=List.rec (motive:=λ_=>(List GV->R)->R) (λf=>f []) (λx _ a f=>shK k x λy=>a λr=>f (y::r)) l
theorem Ug {R:Type} (k:Nat):∀(l:List GV) (f:List GV->R),aeJ k l f=f (VR k l)
 | [],f=>rfl
 |x::l,f=>by
  show shK k x (λy=>aeJ k l λr=>f (y::r))=_;rw[YR,Ug k l];rfl
def aeK {R:Type} (k:Nat) (o:GO) (f:GO->R):R:=GO.casesOn (motive:=λ_=>R) o (λa=>aeJ k a λa=>f (.cells a)) (λb=>f (Zz k (.mp b)))
theorem abN {R:Type} (k:Nat) (o:GO) (f:GO->R):aeK k o f=f (Zz k o):=by
 cases o with
 |cells a=>exact Ug k a _
 |mp b=>rfl
def aeB {R:Type} (k:Nat) (t:Tr (Nat×GO)) (b:OL):(Tr (Nat×GO)->R)->R:=List.rec (motive:=λ_=>(Tr (Nat×GO)->R)->R) (λf=>f t) (λx _ a f=>a λt=>sn (Nat.add k x.2.1) λv=>sn (Nat.add k x.1) λh=>aeK k x.2.2 λo=>t.setK (some (v,o)) h f) b
theorem TY {R:Type} (k:Nat) (t:Tr (Nat×GO)):∀(a:OL) (f:Tr (Nat×GO)->R),aeB k t a f=f (PL k t a)
 | [],f=>rfl
 |x::a,f=>by
  show aeB k t a (λt=>sn (Nat.add k x.2.1) λv=>sn (Nat.add k x.1) λh=>aeK k x.2.2 λo=>t.setK (some (v,o)) h f)=_;rw[TY k t a];simp only[vZ,abN,Ci];rfl
def Pr (g:GV) (n:Nat) (a:OL) (H:GH):Option (GV×GH):=sn H.n λk=>shK k g λg=>aeB k H.t a λt=>sn (Nat.add k n) λm=>some (g,⟨m,t⟩)
theorem Yl (g:GV) (n:Nat) (a:OL) (H:GH):Pr g n a H=some (GM H.n g,H.load n a):=by
 unfold Pr;simp only[vZ,YR,TY];rfl
theorem TO {P:Program} {T:Gc} {G:GP} {gs gs2:y_} (j:gs2.obs=gs.obs) (d:gs2.env=[]) (M:Jt T G.tab) (L:∀m:eL gs2,Uy P G T.fns m) {a f n:Nat} {y:List GV} {z:List Value} {O:List Nat} {g:GV} {c:OL} (i:TN T G a f y O=some (g,n,c)) (C:aX P f)
  {m:eL gs} {w:World} {F:dM} {H o:GH} {B:GV} (Q:oV (λ_=>none) y z) (h:Pr g n c H=some (B,o)) (R:fJ m F H w):kI P m F f z w B o:=by
 rw[Yl]at h;cases h;obtain⟨r,D,i⟩:=aD.1 (show ob (JC T G a f y H0) _=some (g,n,c)from i);obtain⟨S,s,i⟩:=aD.1 i;cases i;rw[Gi M]at D;have b:HV gs2 w λ_=>False:=λp t=>⟨(R.glo p (j▸t)).1,id⟩
 rcases Gh L (H':=r.2) (g:=r.1) D (fJ.start (eL.of w b) d) Q with⟨v,E,l,k,_⟩|⟨_,N⟩
 ·have:=C z.toArray w;rw[show(eL.of w b).w=w from rfl,this]at k;cases k
 ·refine .inr ⟨C _ w,N.mono ?_⟩;rintro e E ⟨v,A,rfl,_,I,u⟩;have J:fJ (eL.of w b) A (IX r.2.n c) E:=I.sub Z λh p t=>by
   have:VQ c h=some p:=(Ea c h).symm.trans t;exact HE s _ (Np this)
  obtain⟨l,q,K,x⟩:=R.join J;exact⟨v,l,rfl,q,K,x _ _ u⟩
theorem Vp {P:Program} {T:Gc} {G:GP} {gs:y_} (y:Jt T G.tab) (x:∀H:eL gs,Uy P G T.fns H) {a f n:Nat} {m:List GV} {o:List Value} {D:List Nat} {g:GV} {j:OL} (d:TN T G a f m D=some (g,n,j)) (z:aX P f)
  (E:oV (λ_=>none) m o) (B:gs.env=[]) (b:eL gs):Calls P f o.toArray b.w λe q=>∃v c,e = .returned v∧fJ b c (IX n j) q∧Rl c g v:=by
 obtain⟨r,t,d⟩:=aD.1 (show ob (JC T G a f m H0) _=some (g,n,j)from d);obtain⟨F,k,d⟩:=aD.1 d;cases d;rw[Gi y]at t;rcases Gh x (H':=r.2) (g:=r.1) t (fJ.start b B) E with⟨v,q,c,i,_⟩|⟨_,A⟩
 ·have:=z o.toArray b.w;rw[this]at i;cases i
 ·refine A.mono ?_;rintro e q ⟨v,s,rfl,_,u,l⟩;exact⟨v,s,rfl,u.sub Z λh p C=>by
   have:VQ j h=some p:=(Ea j h).symm.trans C;exact HE k _ (Np this),l⟩
end
theorem RU {P:Program} {gs:Nat->y_} {L:List bA} (D:∀w S,(∀h∈L,h.p w S)->∃T,HV (gs T) w λ_=>False) {f n:Nat} {z:List Value} {g:GV} {y:OL}
  (h:∀T (b:eL (gs T)),Calls P f z.toArray b.w λe s=>∃v c,e = .returned v∧fJ b c (IX n y) s∧Rl c g v) {A:Type} {o:A->Value} {LO:A->List bA}
  (d:∀T (b:eL (gs T)) (B:dM) (w:World) (V:Value),(∀k,b.mine k->b.w.heap.size<=k)->fJ b B (IX n y) w->Rl B g V->∃x:A,V=o x∧∀q∈LO x,q.p w (λk=>b.w.heap.size<=k)):
  aY P f z.toArray L o (λ_ l=>l) (λx l=>LO x++l):=by
 intro t C H;obtain⟨T,u⟩:=D t C H;refine(h T (.of t u)).mono ?_;rintro e s ⟨v,c,rfl,R,G⟩;obtain⟨x,rfl,F⟩:=d T (.of t u) c s v (λk r=>r.elim id False.elim) R G;refine⟨x,rfl,R.ext,λ_ _=>False,⟨λi m E=>by simp at E,λi k h=>h.elim,λi j k h=>h.elim⟩,λq a=> ?_⟩
 have a:q∈LO x++[]:=a;rw[List.append_nil]at a;exact bA.wide (F q a) (λk r=>⟨.inr (.inl r),λi h=>h.elim⟩)
noncomputable def Iq (s:ByteArray):Nat×Nat:=(lP (bL s),(bL s).length)
theorem OZ {a b:ByteArray} (h:Iq a=Iq b):a=b:=by
 have c:=Xr a b;unfold Iq at h;rw[h]at c;have e:QF (lP (bL b),(bL b).length) (lP (bL b),(bL b).length)=true:=by simp[QF]
 rw[e]at c;have d:a.toList=b.toList:=eq_of_beq c.symm;rw[Lib.toList_data,Lib.toList_data]at d;obtain⟨⟨x⟩⟩:=a;obtain⟨⟨y⟩⟩:=b;simp only at d;rw[d]
noncomputable def adP (a:List GV):Option (Nat×Nat):=List.casesOn (motive:=λ_=>Option (Nat×Nat)) a none λc r=>List.casesOn (motive:=λ_=>Option (Nat×Nat)) r c.asStr λ_ _=>none
abbrev aeD:eJ ByteArray:=⟨1,Nat.one_pos,λ_ _ a x=>a=[.string x],λh=>by simp[h],λh _=>h⟩
theorem iC.str {S:Nat->Prop} {g:dM} {w:World}:iC S g w adP aeD Iq:=λgs f y a h _=>by
 cases gs with
 |nil=>cases h
 |cons c gs=>
 cases gs with
 |cons _ _=>cases h
 |nil=>
 have h:c.asStr=some y:=h;obtain⟨v,f,rfl,b,a⟩:=a.of_cons;rw[a.of_nil];rw[pM h]at b;obtain⟨x,rfl,d,e⟩:=b.str_inv;exact⟨x,by unfold Iq;rw[<-d,<-e],rfl⟩
theorem abR {c:dM} {V:Value} {n l:Nat} {s:ByteArray} (h:Rl c (.str n l) V) (e:Iq s=(n,l)):V = .string s:=by
 obtain⟨x,rfl,a,b⟩:=h.str_inv;have:Iq x=Iq s:=by rw[e];unfold Iq;rw[<-a,<-b]
 rw[OZ this]
theorem JZ {c:Type}:∀a b:c,id a=id b->a=b:=λ_ _ h=>h
theorem DX {c d e i:Type} {f:c->e} {g:d->i} (j:∀a b,f a=f b->a=b) (k:∀a b,g a=g b->a=b):∀a b:c×d,(λz:c×d=>(f z.1,g z.2)) a=(λz:c×d=>(f z.1,g z.2)) b->a=b:=λa b h=>by
 obtain⟨l,m⟩:=a;obtain⟨n,o⟩:=b;simp only[Prod.mk.injEq]at h;rw[j _ _ h.1,k _ _ h.2]
theorem Kc {g i:Type} {f:g->i} (e:∀a b,f a=f b->a=b):∀{c d:List g},c.map f=d.map f->c=d
 | [],[],_=>rfl
 | [],_::_,h=>by simp at h
 |_::_,[],h=>by simp at h
 |a::c,b::d,h=>by
  simp only[List.map_cons,List.cons.injEq]at h;rw[e _ _ h.1,Kc e h.2]
end Go.Gx
section
set_option maxRecDepth 100000
namespace Go.Gx
open Go Go.Sx Go.Proofs Go.Proofs.YtlkhndebimcbbaaGreatDoor
def zS (l:oH):List GV:=l.map λn=> .int .i64 (.ofNat n)
abbrev Vg:Nat:=71249362481079977452884316497893485862003781378380186443723211848324143362108177885825419081494821760013661206001097331844441314216469646330948494578433579262219834318486201028918376115292234488190700106942185120577518256511015159373632050200221875266428893346870089151936961848021402711157309556811570579452411680726714441114401627388096496024253845716638330773660915918662884872349758420128557367125203571583786029032399741638474503939646749525176616068912753182428383816770282999284942596549464335299041578590498704846876479973995637544997300808465629673589532931271276867856109758593603349879408733903821463777771303521998656430507938449710980075854559363989016083892713040828720973422783465502057059703922495107079261490020884616910566195303447459199789638099550237825859650229398681345092860498350921460315705906616442288394582691200440280135629162006963382844585911948056220785599387271665395519496413351471157088698250728565328718568235708145832114557345173602352771027404378663854631932098478169816132556163210119982019532849716161103768839540877472227068661770096791273707001174665743715154553128055607401500841088534854391588672059193795601211258321011231050774593156430084765392881009496824427195855467792851940283086600280108372309832209821085536023972216446949998813815478863454932518093775342849783278727011324956570494402720150194198228748565212249332223202955995657936385103356277284401707377096495385107540722377361240699143073602638306000298122043359982192
def mu0:List GV:=[.str Vg 613]
def mg0:GV:=(.tup [(.sl 2345 0 275 4),(.int .i64 (.ofNat 0)),(.int .i64 (.ofNat 0))])
def mo0:OL:=[(2345,2345,.cells (zS [1,0,7,0,1,8,16,0,3,16,17,0,1,18,21,0,1,22,23,0,3,24,25,0,2,26,27,0,3,28,30,0,1,31,32,0,3,32,33,0,1,34,37,0,1,38,39,0,3,40,41,0,1,42,46,0,3,46,47,0,1,48,51,0,1,52,53,0,3,54,55,0,1,56,60,0,3,60,61,0,1,62,65,0,1,66,67,0,3,68,69,0,1,70,74,0,3,74,75,0,1,76,79,0,1,80,81,0,3,82,83,0,2,84,85,0,3,86,88,0,2,89,91,15,3,91,92,0,1,93,96,0,1,97,98,0,3,99,100,0,2,101,102,0,3,103,105,0,2,106,108,15,3,109,110,0,1,111,112,0,3,112,113,0,1,114,118,0,1,119,122,0,3,122,123,0,1,124,128,0,3,129,131,0,3,132,133,0,1,133,134,0,3,135,137,0,2,138,139,0,3,140,142,0,1,143,144,0,3,145,147,0,1,148,152,0,3,152,153,0,3,154,156,0,1,157,158,0,3,159,161,0,2,162,163,0,3,163,164,0,1,165,166,0,3,167,169,0,1,170,174,0,3,174,175,0,1,176,180,0,1,181,184,0,3,184,185,0,3,186,187,0,1,187,191,0,3,192,194,0,3,195,196,0,1,196,197,0,3,198,200,0,3,201,202,0,1,202,205,0,3,205,206,0,1,206,207,0,3,207,208,0,1,208,209,0,3,209,210,0,3,211,212,0,1,213,214,0,3,215,216,0,1,217,220,0,3,220,221,0,1,221,222,0,3,222,223,0,1,223,224,0,3,224,225,0,3,226,227,0,2,228,229,1,3,230,231,0,1,232,233,0,3,233,234,0,3,235,237,0,1,238,239,0,3,240,242,0,1,243,248,0,3,248,249,0,1,249,250,0,3,250,251,0,1,251,252,0,3,253,255,0,1,256,259,0,3,259,260,0,1,260,261,0,3,261,262,0,1,262,263,0,3,263,264,0,3,264,265,0,3,265,266,0,3,269,271,0,1,272,273,0,3,274,276,0,3,277,278,0,1,278,281,0,3,281,282,0,1,282,283,0,3,283,284,0,1,284,285,0,3,285,286,0,3,287,288,0,1,289,290,0,3,291,292,0,1,293,296,0,3,296,297,0,1,297,298,0,3,298,299,0,1,299,300,0,3,300,301,0,3,302,303,0,2,304,305,1,3,306,307,0,1,308,309,0,3,309,310,0,3,310,311,0,1,312,313,0,3,314,316,0,1,317,322,0,3,322,323,0,1,323,324,0,3,324,325,0,1,325,326,0,3,327,329,0,1,330,333,0,3,333,334,0,1,334,335,0,3,335,336,0,1,336,337,0,3,337,338,0,3,338,339,0,3,339,340,0,1,341,345,0,1,346,351,0,3,351,352,0,1,353,357,0,3,358,360,0,3,361,362,0,1,362,363,0,3,364,366,0,1,367,368,0,3,369,371,0,1,372,376,0,3,376,377,0,1,378,379,0,3,380,382,0,3,383,384,0,1,384,385,0,3,385,386,0,1,387,391,0,1,392,396,0,3,396,397,0,3,398,399,0,1,399,403,0,3,404,406,0,1,407,411,0,3,411,412,0,1,412,413,0,3,414,416,0,1,417,418,0,3,419,421,0,3,422,423,0,1,423,424,0,3,424,425,0,1,425,426,0,3,427,429,0,1,430,431,0,3,432,434,0,1,435,436,0,3,437,439,0,3,440,441,0,1,441,442,0,3,442,443,0,1,443,444,0,3,444,445,0,3,445,446,0,3,447,449,0,1,450,451,0,3,452,454,0,1,455,459,0,3,459,460,0,1,460,461,0,3,462,464,0,1,465,466,0,3,467,469,0,1,470,471,0,3,471,472,0,1,472,473,0,3,473,474,0,3,474,475,0,1,476,477,0,3,478,480,0,1,481,485,0,3,485,486,0,1,486,487,0,3,488,490,0,1,491,492,0,3,493,495,0,1,496,497,0,3,497,498,0,1,498,499,0,3,499,500,0,3,500,501,0,1,502,506,0,1,507,513,0,3,513,514,0,1,515,516,0,3,517,519,0,1,520,523,0,3,523,524,0,1,524,525,0,3,525,526,0,1,526,527,0,3,528,530,0,1,531,532,0,3,532,533,0,1,533,537,0,3,538,540,0,3,541,542,0,1,542,543,0,3,543,544,0,1,544,545,0,3,546,548,0,1,549,550,0,3,550,551,0,1,551,552,0,3,553,555,0,1,556,557,0,3,557,558,0,3,559,561,0,1,562,563,0,3,564,566,0,1,567,572,0,3,572,573,0,1,574,575,0,3,576,578,0,1,579,580,0,3,581,582,0,1,583,586,0,3,586,587,0,1,587,588,0,3,588,589,0,1,589,590,0,3,591,593,0,1,594,595,0,3,595,596,0,1,596,600,0,3,601,602,0,1,603,604,0,3,604,605,0,1,605,606,0,3,607,608,0,2,609,610,0,3,610,611,0,3,611,612,0]))]
set_option maxHeartbeats 4000000 in
theorem me0:TN HK gp 4000 69 mu0 [2345]=some (mg0,2346,mo0):=by kernel_rfl
noncomputable def JW (f:Nat) (a:List GV) (H:GH):Option (GV×GH):=bif Nat.beq f 69 then(bif isS a (Vg,613)then Pr mg0 2346 mo0 H else XI f a H)else XI f a H
noncomputable def agF:GP:=⟨wA,gp.cat,JW,gp.exn⟩
theorem Hw {T:Nat} {k:eL (gl T)} {w:World} {e:dM} {H i:GH} {g:GV} {d:List GV} {j:fV} {f:Nat} (h:JW f d H=some (g,i)) (R:fJ k e H w) (a:oV e d j):kI Tryz.prog k e f j w g i:=by
 unfold JW at h;cases b:Nat.beq f 69 with
 |false=>rw[b]at h;exact Ni h R a
 | true =>
  rw[b]at h;cases c:isS d (Vg,613)with
  |false=>rw[c]at h;exact Ni h R a
  |true=>
   rw[c]at h;rw[Nat.eq_of_beq_eq_true b];rw[XW c]at a;obtain⟨V,rfl,n⟩:=a.one;obtain⟨x,rfl,l,m⟩:=n.str_inv;exact TO (gs:=gl T) (gs2:=gl T) Z Z GI XK me0 Tryz.call69 (oV.cons (Sj l m) .nil) h R
theorem ack {T:Nat} (a:eL (gl T)):Uy Tryz.prog agF HK.fns a:=⟨(XK a).tab,(XK a).mixed,(XK a).fns,λh d w c R b=>Hw h R b,(XK a).exn,(XK a).cat⟩
def mu1:List GV:=[.str Vg 613]
def mg1:GV:=(.agg [(.str 8390039475830484595 8),(.sl 2615 0 6 6),(.sl 4519 0 5 3)])
def Yn:OL:=[(2615,2615,.cells [(.str 100 1),(.int .i64 (.ofNat 1)),(.int .i64 (.ofNat 0)),(.int .i64 (.ofNat 0)),(.int .i64 (.ofNat 1)),(.int .i64 (.ofNat 0)),(.str 112 1),(.int .i64 (.ofNat 3)),(.int .i64 (.ofNat 0)),(.int .i64 (.ofNat 0)),(.int .i64 (.ofNat 0)),(.int .i64 (.ofNat 0)),(.str 115 1),(.int .i64 (.ofNat 2)),(.int .i64 (.ofNat 0)),(.int .i64 (.ofNat 0)),(.int .i64 (.ofNat 0)),(.int .i64 (.ofNat 0)),(.str 98 1),(.int .i64 (.ofNat 2)),(.int .i64 (.ofNat 0)),(.int .i64 (.ofNat 0)),(.int .i64 (.ofNat 0)),(.int .i64 (.ofNat 0)),(.str 120 1),(.int .i64 (.ofNat 1)),(.int .i64 (.ofNat 0)),(.int .i64 (.ofNat 15)),(.int .i64 (.ofNat 0)),(.int .i64 (.ofNat 0)),(.str 97 1),(.int .i64 (.ofNat 1)),(.int .i64 (.ofNat 0)),(.int .i64 (.ofNat 0)),(.int .i64 (.ofNat 15)),(.int .i64 (.ofNat 0))]),
 (2739,2739,.cells (zS [41,0,10,0,42,0,36,0,5,0,1,0,36,0,5,1,4,0])),
 (2765,2765,.cells [(.int .i64 (.ofNat 1)),(.int .i64 (.ofNat 0))]),
 (2798,2798,.cells [(.int .i64 (.ofNat 4)),(.int .i64 (.ofNat 0))]),
 (2806,2806,.cells [(.int .i64 (.ofNat 0)),(.sl 2765 0 1 2),(.int .i64 (.ofNat 1)),(.sl 2798 0 1 2)]),
 (3194,3194,.cells (zS [41,0,19,0,10,0,42,0,36,0,5,0,43,0,37,0,24,0,12,0,6,0,33,0,24,0,12,0,1,1,6,0,36,0,5,1,23,0,35,0,12,0,24,0,12,0])),
 (3375,3375,.cells (zS [43,0,37,0,24,0,12,0,6,0,33,0,24,0,12,0,1,1,6,0])),
 (3501,3501,.cells (zS [23,0,35,0,12,0,24,0,12,0])),
 (3509,3509,.cells [(.int .i64 (.ofNat 0)),(.sl 3375 0 10 2),(.int .i64 (.ofNat 1)),(.sl 3501 0 5 2)]),
 (3577,3577,.cells (zS [41,0,10,0,19,0,5,2])),
 (3604,3604,.cells [(.int .i64 (.ofNat 2)),(.int .i64 (.ofNat 0))]),
 (3646,3646,.cells (zS [19,0,5,3])),
 (3654,3654,.cells [(.int .i64 (.ofNat 2)),(.sl 3604 0 1 2),(.int .i64 (.ofNat 3)),(.sl 3646 0 2 2)]),
 (3888,3888,.cells (zS [41,0,19,0,10,0,21,0,41,0,35,0,11,0,5,1,42,0,36,0,12,3,5,3,41,0,5,2,19,0,12,2])),
 (3988,3988,.cells (zS [21,0,41,0,35,0,11,0,5,1,12,2])),
 (4094,4094,.cells (zS [21,0,41,0,35,0,11,0,5,1,12,3])),
 (4102,4102,.cells [(.int .i64 (.ofNat 2)),(.sl 3988 0 6 2),(.int .i64 (.ofNat 3)),(.sl 4094 0 6 2)]),
 (4313,4313,.cells (zS [41,0,5,2,20,0,42,0,36,0,12,1,17,0,41,0,19,0,12,2,35,0,12,3,5,3])),
 (4340,4340,.cells [(.int .i64 (.ofNat 3)),(.int .i64 (.ofNat 0))]),
 (4504,4504,.cells (zS [33,0,5,4,26,0,43,0,35,0,12,1,17,0,12,5,1,0])),
 (4511,4511,.cells [(.int .i64 (.ofNat 2)),(.sl 4340 0 1 2),(.int .i64 (.ofNat 5)),(.sl 4504 0 9 2)]),
 (4519,4519,.cells [(.str 7368564 3),(.sl 2739 0 9 2),(.sl 2806 0 2 2),(.str 7827308 3),(.sl 3194 0 23 2),(.sl 3509 0 2 2),(.str 474214786402 5),(.sl 3577 0 4 2),(.sl 3654 0 2 2),(.str 1701536116 4),(.sl 3888 0 16 2),(.sl 4102 0 2 2),(.str 114844899371366 6),(.sl 4313 0 13 2),(.sl 4511 0 2 2)])]
set_option maxHeartbeats 4000000 in
theorem me1:TN HK agF 4000 19 mu1 [2615,2739,2765,2798,2806,3194,3375,3501,3509,3577,3604,3646,3654,3888,3988,4094,4102,4313,4340,4504,4511,4519]=some (mg1,6842,Yn):=by kernel_rfl
noncomputable def RA (f:Nat) (a:List GV) (H:GH):Option (GV×GH):=bif Nat.beq f 19 then(bif isS a (Vg,613)then Pr mg1 6842 Yn H else JW f a H)else JW f a H
noncomputable def agG:GP:=⟨wA,gp.cat,RA,gp.exn⟩
theorem Ve {T:Nat} {k:eL (gl T)} {w:World} {e:dM} {H i:GH} {g:GV} {d:List GV} {j:fV} {f:Nat} (h:RA f d H=some (g,i)) (R:fJ k e H w) (a:oV e d j):kI Tryz.prog k e f j w g i:=by
 unfold RA at h;cases b:Nat.beq f 19 with
 |false=>rw[b]at h;exact Hw h R a
 | true =>
  rw[b]at h;cases c:isS d (Vg,613)with
  |false=>rw[c]at h;exact Hw h R a
  |true=>
   rw[c]at h;rw[Nat.eq_of_beq_eq_true b];rw[XW c]at a;obtain⟨V,rfl,n⟩:=a.one;obtain⟨x,rfl,l,m⟩:=n.str_inv;exact TO (gs:=gl T) (gs2:=gl T) Z Z GI ack me1 Tryz.call19 (oV.cons (Sj l m) .nil) h R
theorem agE {T:Nat} (a:eL (gl T)):Uy Tryz.prog agG HK.fns a:=⟨(XK a).tab,(XK a).mixed,(XK a).fns,λh d w c R b=>Ve h R b,(XK a).exn,(XK a).cat⟩
noncomputable abbrev gp2:GP:=agG
theorem ajI {T:Nat} (a:eL (gl T)):Uy Tryz.prog gp2 HK.fns a:=agE a
end Go.Gx
end
namespace Go.Gx
open Go Go.Sx Go.RowKit
structure Hd (n:Nat) (os:OL) (ρ:dM) (w:World) (S:Nat->Prop):Prop where
 live:∀h o,(IX n os).get h=some o->∃l,ρ h=some l∧S l.b∧xQ ρ w l o
 inj:∀h h' o o' l l',(IX n os).get h=some o->(IX n os).get h'=some o'->ρ h=some l->ρ h'=some l'->l.b=l'.b->h=h'
 fresh:∀h,n<=h->ρ h=none
 dense:∀h,h<n->∃l,ρ h=some l
 vers:∀h v l,(IX n os).ver h=some v->ρ h=some l->∃lv,ρ v=some lv∧w.heap[l.b]? = some lv.x∧(IX n os).get h=some lv.o
theorem Hd.mono {n:Nat} {p:OL} {f:dM} {w w':World} {S g:Nat->Prop} (H:Hd n p f w S) (h:∀k,S k->k<w.heap.size->g k∧w'.heap[k]? = w.heap[k]?):Hd n p f w' g:=by
 refine⟨λk o s=> ?_,H.inj,H.fresh,H.dense,λk v l m j=> ?_⟩
 ·obtain⟨l,a,b,c⟩:=H.live k o s;obtain⟨d,e⟩:=h _ b c.lt;exact⟨l,a,d,c.move (dM.le_refl f) e⟩
 ·obtain⟨u,a,b,c⟩:=H.vers k v l m j;obtain⟨o,t⟩:=rV.1 m;obtain⟨x,i,q,r⟩:=H.live k o (gT.2 ⟨v,t⟩);rw[j]at i;cases i;exact⟨u,a,by rw[(h _ q r.lt).2];exact b,c⟩
theorem fJ.hd {gs:y_} {b:eL gs} {n:Nat} {d:OL} {ρ:dM} {w:World} {S:Nat->Prop} (R:fJ b ρ (IX n d) w) (e:∀k,b.mine k->S k):Hd n d ρ w S:=
 ⟨λh o f=>let ⟨l,a,b,c⟩:=R.live h o f;⟨l,a,e _ b,c⟩,R.inj,R.fresh,R.dense,R.vers⟩
def VW (n:Nat) (b:OL) (g:GV) (V:Value):bA where
 p w S:=∃a,Hd n b a w S∧Rl a g V
 mono:=fun⟨a,h,r⟩ k=>⟨a,h.mono k,r⟩
def Hd.O (n:Nat) (a:OL) (c:dM) (k:Nat):Prop:=∃h o l,(IX n a).get h=some o∧c h=some l∧l.b=k
def Hd.base (n:Nat) (os:OL) (ρ:dM) (w:World):eL noG:=⟨w,Hd.O n os ρ,λ_ h=>absurd h List.not_mem_nil⟩
theorem Hd.rel {n:Nat} {b:OL} {ρ:dM} {w:World} {S:Nat->Prop} (H:Hd n b ρ w S):fJ (Hd.base n b ρ w) ρ (IX n b) w:=
 ⟨BL.refl w,λh o d=>let ⟨l,a,_,c⟩:=H.live h o d;⟨l,a,.inr ⟨h,o,l,d,a,rfl⟩,c⟩,H.inj,H.fresh,H.dense,H.vers,λi v e=>by simp[Hd.base,noG]at e⟩
noncomputable def Fe (H:GH) (b:OL):Bool:=List.rec (motive:=λ_=>Bool) true (λx _ a=>Option.casesOn (motive:=λ_=>Bool) (H.ver x.1) false λv=>bif Nat.beq v x.2.1 then a else false) b
theorem PW {H:GH}:∀{a:OL},Fe H a=true->∀x∈a,H.ver x.1=some x.2.1
 | [],_,x,b=>by cases b
 | y :: a, h, x, b => by
  have h:Option.casesOn (motive:=λ_=>Bool) (H.ver y.1) false (λv=>bif Nat.beq v y.2.1 then Fe H a else false)=true:=h;cases c:H.ver y.1 with
  |none=>rw[c]at h;cases h
  | some v =>
   rw[c]at h;obtain⟨d,f⟩:=bN.1 (show(bif Nat.beq v y.2.1 then(some (Fe H a))else none)=some true by
    have h:(bif Nat.beq v y.2.1 then Fe H a else false)=true:=h;cases e:Nat.beq v y.2.1<;>rw[e]at h<;>first|cases h|(show some (Fe H a)=some true;rw[show Fe H a=true from h]))
   rcases List.mem_cons.1 b with rfl|b
   ·rw[c,Nat.eq_of_beq_eq_true d]
   ·exact PW (Option.some.inj f) x b
noncomputable def okV (a:OL) (r:OR):Bool:=Option.casesOn (motive:=λ_=>Bool) r false λr=>Option.casesOn (motive:=λ_=>Bool) r.1.asB false λb=>bif b then Fe r.2 a else false
theorem Yv {d:OL} {r:OR} (h:okV d r=true):∃a,r=some (.bool true,a)∧Fe a d=true:=by
 cases r with
 |none=>cases h
 | some r =>
  obtain⟨g,a⟩:=r;have h:Option.casesOn (motive:=λ_=>Bool) g.asB false (λb=>bif b then Fe a d else false)=true:=h;cases c:g.asB with
  |none=>rw[c]at h;cases h
  |some b=>
   rw[c]at h;cases b with
   |false=>cases h
   |true=>exact⟨a,by rw[Bw c],h⟩
theorem Vi {P:Program} {G:GP} {x:FT} (F:∀T:eL noG,Uy P G x T) {fuel f n:Nat} {d:OL} {g:GV} {V:Value} (H:aX P f) (h:∃r,Tl G x fuel f [g] (IX n d)=some (.bool true,r)∧Fe r d=true) {w:World} {S:Nat->Prop} (Q:(VW n d g V).p w S):
  Calls P f #[V] w λe u=>e = .returned (.bool true)∧MC w u:=by
 obtain⟨U,y,M⟩:=Q;obtain⟨r,D,E⟩:=h;rcases Gh F D y.rel (.cons M .nil)with⟨v,u,W,m,_⟩|⟨_,I⟩
 ·have:=H #[V] w;rw[this]at m;cases m
 ·refine I.mono ?_;rintro e u ⟨v,X,rfl,j,c,N⟩;refine⟨by rw[N.bool_inv],c.ext.os,c.ext.tape,c.ext.output,c.ext.size,λk K=> ?_⟩
  by_cases A:Hd.O n d U k
  ·obtain⟨i,o,l,J,z,rfl⟩:=A;obtain⟨t,q⟩:=gT.1 J;have L:(i,t,o)∈d:=Np ((Ea d i).symm.trans q);obtain⟨R,a,b,_⟩:=y.vers i t l (rV.2 ⟨o,q⟩) z;obtain⟨s,B,C,_⟩:=c.vers i t l (PW E _ L) (j _ _ z);have:R=s:=by have:=j _ _ a;rw[B]at this;exact(Option.some.inj this).symm
   subst this;exact C.trans b.symm
  ·exact c.ext.block k K A
end Go.Gx
namespace Go.Proofs.YtlkhndebimcbbaaGreatDoor
open Go Go.Sx Go.Gx
set_option maxRecDepth 100000
abbrev xR:=ByteArray×(Value×fM)×(Value×List (Int×(Value×fM)))
def Am (z:xR):fM×List (Int×fM):=(z.2.1.2,z.2.2.2.map λs=>(s.1,s.2.2))
def CK:ByteArray:=(ByteArray.mk #[112,114,111,103,114,97,109,32,115,110,97,112,115,104,111,116,59,10,118,97,114,32,100,32,58,32,48,32,46,46,32,110,59,10,118,97,114,32,112,32,58,32,112,111,114,116,59,10,118,97,114,32,115,32,58,32,98,111,111,108,59,10,118,97,114,32,98,32,58,32,98,111,111,108,59,10,118,97,114,32,120,32,58,32,48,32,46,46,32,49,53,59,10,118,97,114,32,97,32,58,32,48,32,46,46,32,49,53,32,42,32,110,59,10,114,117,108,101,32,116,111,112,58,32,114,111,111,116,32,38,38,32,40,100,32,33,61,32,48,32,124,124,32,112,32,33,61,32,110,111,110,101,41,32,45,62,32,100,32,58,61,32,48,44,32,112,32,58,61,32,110,111,110,101,59,10,114,117,108,101,32,108,111,119,58,32,33,114,111,111,116,32,38,38,32,40,100,32,33,61,32,40,109,105,110,40,113,46,100,41,32,60,32,110,32,63,32,109,105,110,40,113,46,100,41,32,43,32,49,32,58,32,110,41,32,124,124,32,112,32,33,61,32,102,105,114,115,116,40,113,46,100,32,61,61,32,109,105,110,40,113,46,100,41,41,41,10,32,32,45,62,32,100,32,58,61,32,40,109,105,110,40,113,46,100,41,32,60,32,110,32,63,32,109,105,110,40,113,46,100,41,32,43,32,49,32,58,32,110,41,44,32,112,32,58,61,32,102,105,114,115,116,40,113,46,100,32,61,61,32,109,105,110,40,113,46,100,41,41,59,10,114,117,108,101,32,98,101,103,105,110,58,32,114,111,111,116,32,38,38,32,33,115,32,45,62,32,115,32,58,61,32,116,114,117,101,44,32,98,32,58,61,32,33,98,59,10,114,117,108,101,32,116,97,107,101,58,32,33,114,111,111,116,32,38,38,32,115,111,109,101,40,113,32,61,61,32,112,32,38,38,32,40,113,46,98,32,33,61,32,98,32,124,124,32,115,32,38,38,32,33,113,46,115,41,41,32,45,62,32,115,32,58,61,32,115,111,109,101,40,113,32,61,61,32,112,32,38,38,32,113,46,115,41,44,32,98,32,58,61,32,115,111,109,101,40,113,32,61,61,32,112,32,38,38,32,113,46,98,41,59,10,114,117,108,101,32,102,105,110,105,115,104,58,32,115,32,38,38,32,97,108,108,40,113,46,112,32,33,61,32,113,46,98,97,99,107,32,124,124,32,33,113,46,115,32,38,38,32,113,46,98,32,61,61,32,98,41,32,45,62,32,115,32,58,61,32,102,97,108,115,101,44,32,97,32,58,61,32,120,32,43,32,115,117,109,40,113,46,112,32,61,61,32,113,46,98,97,99,107,32,63,32,113,46,97,32,58,32,48,41,59,10])
def HJ:Il:=[((ByteArray.mk #[100]),(1:Int),(0:Int),(0:Int),(1:Int),(0:Int)),((ByteArray.mk #[112]),(3:Int),(0:Int),(0:Int),(0:Int),(0:Int)),((ByteArray.mk #[115]),(2:Int),(0:Int),(0:Int),(0:Int),(0:Int)),((ByteArray.mk #[98]),(2:Int),(0:Int),(0:Int),(0:Int),(0:Int)),((ByteArray.mk #[120]),(1:Int),(0:Int),(15:Int),(0:Int),(0:Int)),((ByteArray.mk #[97]),(1:Int),(0:Int),(0:Int),(15:Int),(0:Int))]
def CJ:KO:=[([(41,0),(10,0),(42,0),(36,0),(5,0),(1,0),(36,0),(5,1),(4,0)],[(0,[(1,0)]),(1,[(4,0)])]),([(41,0),(19,0),(10,0),(42,0),(36,0),(5,0),(43,0),(37,0),(24,0),(12,0),(6,0),(33,0),(24,0),(12,0),(1,1),(6,0),(36,0),(5,1),(23,0),(35,0),(12,0),(24,0),(12,0)],[(0,[(43,0),(37,0),(24,0),(12,0),(6,0),(33,0),(24,0),(12,0),(1,1),(6,0)]),(1,[(23,0),(35,0),(12,0),(24,0),(12,0)])]),([(41,0),(10,0),(19,0),(5,2)],[(2,[(2,0)]),(3,[(19,0),(5,3)])]),([(41,0),(19,0),(10,0),(21,0),(41,0),(35,0),(11,0),(5,1),(42,0),(36,0),(12,3),(5,3),(41,0),(5,2),(19,0),(12,2)],[(2,[(21,0),(41,0),(35,0),(11,0),(5,1),(12,2)]),(3,[(21,0),(41,0),(35,0),(11,0),(5,1),(12,3)])]),([(41,0),(5,2),(20,0),(42,0),(36,0),(12,1),(17,0),(41,0),(19,0),(12,2),(35,0),(12,3),(5,3)],[(2,[(3,0)]),(5,[(33,0),(5,4),(26,0),(43,0),(35,0),(12,1),(17,0),(12,5),(1,0)])])]
def acp:List ((Nat×Nat)×fM×List (Int×fM)):=[((7368564,3),[(41,0),(10,0),(42,0),(36,0),(5,0),(1,0),(36,0),(5,1),(4,0)],[(0,[(1,0)]),(1,[(4,0)])]),((7827308,3),[(41,0),(19,0),(10,0),(42,0),(36,0),(5,0),(43,0),(37,0),(24,0),(12,0),(6,0),(33,0),(24,0),(12,0),(1,1),(6,0),(36,0),(5,1),(23,0),(35,0),(12,0),(24,0),(12,0)],[(0,[(43,0),(37,0),(24,0),(12,0),(6,0),(33,0),(24,0),(12,0),(1,1),(6,0)]),(1,[(23,0),(35,0),(12,0),(24,0),(12,0)])]),((474214786402,5),[(41,0),(10,0),(19,0),(5,2)],[(2,[(2,0)]),(3,[(19,0),(5,3)])]),((1701536116,4),[(41,0),(19,0),(10,0),(21,0),(41,0),(35,0),(11,0),(5,1),(42,0),(36,0),(12,3),(5,3),(41,0),(5,2),(19,0),(12,2)],[(2,[(21,0),(41,0),(35,0),(11,0),(5,1),(12,2)]),(3,[(21,0),(41,0),(35,0),(11,0),(5,1),(12,3)])]),((114844899371366,6),[(41,0),(5,2),(20,0),(42,0),(36,0),(12,1),(17,0),(41,0),(19,0),(12,2),(35,0),(12,3),(5,3)],[(2,[(3,0)]),(5,[(33,0),(5,4),(26,0),(43,0),(35,0),(12,1),(17,0),(12,5),(1,0)])])]
def PF (V:Value):bA:=⟨λw S=>(VW 6842 Yn mg1 V).p w S,λ{w w' S S'} h k=>by
 rcases h with h
 ·exact((VW 6842 Yn mg1 V).mono h k)⟩
noncomputable def WE {R:Type} (D:KO) (k:List xR->Option R):Option R:=open Classical in if h:∃r,∀z:List xR,z.map Am=D->k z=some r then some (Classical.choose h)else none
theorem UL {R:Type} {D:KO} {k:List xR->Option R} {r:R} (h:WE D k=some r) (z:List xR) (a:z.map Am=D):k z=some r:=by
 unfold WE at h;split at h
 ·rename_i e;rw[<-Option.some.inj h];exact Classical.choose_spec e z a
 cases h
theorem ZY {R:Type} {D:KO} {k:List xR->Option R} {r:R} (h:∀z:List xR,z.map Am=D->k z=some r):WE D k=some r:=by
 have e:∃r,∀z:List xR,z.map Am=D->k z=some r:=⟨r,h⟩
 unfold WE;rw[dif_pos e];let z:List xR:=D.map λx=>(ByteArray.empty,(undef,x.1),(undef,x.2.map λs=>(s.1,(undef,s.2))))
 have c:z.map Am=D:=by
  show(D.map _).map Am=D;rw[List.map_map]
  conv=>rhs;rw[<-List.map_id D]
  refine List.map_congr_left λx _=>?_;obtain⟨a,b⟩:=x;simp[Am,Function.comp_def]
 rw[<-Classical.choose_spec e z c,h z c]
def nU (a:Nat) (b:ByteArray):Option Zc:=if b=CK then some ((ByteArray.mk #[115,110,97,112,115,104,111,116]),HJ,CJ)else none
theorem WM:aX Tryz.prog 19:=Tryz.call19
theorem Te:aX Tryz.prog 120:=Tryz.call120
theorem PK:Iq CK=(71249362481079977452884316497893485862003781378380186443723211848324143362108177885825419081494821760013661206001097331844441314216469646330948494578433579262219834318486201028918376115292234488190700106942185120577518256511015159373632050200221875266428893346870089151936961848021402711157309556811570579452411680726714441114401627388096496024253845716638330773660915918662884872349758420128557367125203571583786029032399741638474503939646749525176616068912753182428383816770282999284942596549464335299041578590498704846876479973995637544997300808465629673589532931271276867856109758593603349879408733903821463777771303521998656430507938449710980075854559363989016083892713040828720973422783465502057059703922495107079261490020884616910566195303447459199789638099550237825859650229398681345092860498350921460315705906616442288394582691200440280135629162006963382844585911948056220785599387271665395519496413351471157088698250728565328718568235708145832114557345173602352771027404378663854631932098478169816132556163210119982019532849716161103768839540877472227068661770096791273707001174665743715154553128055607401500841088534854391588672059193795601211258321011231050774593156430084765392881009496824427195855467792851940283086600280108372309832209821085536023972216446949998813815478863454932518093775342849783278727011324956570494402720150194198228748565212249332223202955995657936385103356277284401707377096495385107540722377361240699143073602638306000298122043359982192,613):=by kernel_rfl
theorem YC:Iq (ByteArray.mk #[115,110,97,112,115,104,111,116])=(8390039475830484595,8):=by kernel_rfl
theorem YF:MZ (IX 6842 Yn) 6 (dP 1 adP (dP 1 (dI .i64) (dP 1 (dI .i64) (dP 1 (dI .i64) (dP 1 (dI .i64) (dI .i64)))))) (.sl 2615 0 6 6)=some (HJ.map λz=>(Iq z.1,z.2.1,z.2.2.1,z.2.2.2.1,z.2.2.2.2.1,z.2.2.2.2.2)):=by kernel_rfl
theorem Vz:MZ (IX 6842 Yn) 3 (dP 1 adP (dP 1 (dS (IX 6842 Yn) 2 (dP 1 (dI .i64) (dI .i64))) (dS (IX 6842 Yn) 2 (dP 1 (dI .i64) (dS (IX 6842 Yn) 2 (dP 1 (dI .i64) (dI .i64))))))) (.sl 4519 0 5 3)=some acp:=by kernel_rfl
theorem aby:acp.map (λy=>(y.2.1,y.2.2))=CJ:=by kernel_rfl
theorem YD (r:Zc) (h:some ((ByteArray.mk #[115,110,97,112,115,104,111,116]),HJ,CJ)=some r):aY Tryz.prog 19 #[vS CK] [Gb 0 (cellsOf HU xM)] (λx:Value×Value×{z:List xR // z.map Am=r.2.2}=>Value.agg #[vS r.1,x.1,x.2.1]) (λx l=>l) (λx l=>Sl aU x.1 r.2.1::Sl aL x.2.1 x.2.2.1::PF (Value.agg #[vS r.1,x.1,x.2.1])::l):=by
 cases h;refine RU (gs:=gl) (LO:=λx:Value×Value×{z:List xR // z.map Am=CJ}=>[Sl aU x.1 HJ,Sl aL x.2.1 x.2.2.1,PF (Value.agg #[vS (ByteArray.mk #[115,110,97,112,115,104,111,116]),x.1,x.2.1])]) XJ (λT b=>Vp GI ack me1 WM (.cons (Sj (x:=CK) (congrArg Prod.fst PK).symm (congrArg Prod.snd PK).symm) .nil) Z b) ?_;intro T b B w V a R g;have y:=g;obtain⟨f,rfl,c,_⟩:=g.agg_inv;obtain⟨C,f,rfl,m,c⟩:=c.of_cons;obtain⟨j,f,rfl,n,c⟩:=c.of_cons;obtain⟨k,rfl,o⟩:=c.one;obtain rfl:=abR m YC;obtain⟨A,v,s⟩:=Cr R a (iC.pair iC.str (iC.pair (iC.int .i64) (iC.pair (iC.int .i64) (iC.pair (iC.int .i64) (iC.pair (iC.int .i64) (iC.int .i64)))))) n YF;have e:A=HJ:=Kc (DX (λ_ _=>OZ) (DX JZ (DX JZ (DX JZ (DX JZ JZ))))) v;subst e;obtain⟨i,u,t⟩:=Cr (r:=aL) R a (iC.pair iC.str (iC.pair (iC.sl R a (iC.pair (iC.int .i64) (iC.int .i64))) (iC.sl R a (iC.pair (iC.int .i64) (iC.sl R a (iC.pair (iC.int .i64) (iC.int .i64))))))) o Vz;have d:i.map Am=CJ:=by
  rw[<-aby,<-u,List.map_map];refine List.map_congr_left λx _=>?_;simp[Am,Function.comp_def]
 exact⟨(j,k,⟨i,d⟩),rfl,List.forall_mem_cons.2 ⟨s,List.forall_mem_cons.2 ⟨t,List.forall_mem_cons.2 ⟨(⟨B,fJ.hd R a,y⟩),λq p=>absurd p List.not_mem_nil⟩⟩⟩⟩
theorem Zt:okV Yn (JC HK gp0 4000 120 [mg1] (IX 6842 Yn))=true:=by kernel_rfl
theorem ID (a:Nat) {b:ByteArray} (r:Zc) (h:nU a b=some r):aY Tryz.prog 19 #[vS b] [Gb 0 (cellsOf HU xM)] (λx:Value×Value×{z:List xR // z.map Am=r.2.2}=>Value.agg #[vS r.1,x.1,x.2.1]) (λx l=>l) (λx l=>Sl aU x.1 r.2.1::Sl aL x.2.1 x.2.2.1::PF (Value.agg #[vS r.1,x.1,x.2.1])::l):=by
 unfold nU at h;by_cases c:b=CK
 ·subst c;exact YD r ((if_pos Z).symm.trans h)
 rw[if_neg c]at h;cases h
theorem YE (f:Nat):nU f CK=some ((ByteArray.mk #[115,110,97,112,115,104,111,116]),HJ,CJ):=by
 unfold nU;exact if_pos Z
def BC (fuel:Nat) (a:ByteArray×List (ByteArray×Int×Int×Int×Int×Int)×List (xR)):Option Bool:=some true
theorem Lh (a:Nat) {b:ByteArray×List (ByteArray×Int×Int×Int×Int×Int)×List (xR)} (d f:Value) (r:Bool) (h:BC a b=some r):
  aY Tryz.prog 120 #[Value.agg #[vS b.1,d,f]] [Sl aU d b.2.1,Sl aL f b.2.2,PF (Value.agg #[vS b.1,d,f])] (λx:Unit=>vB (r)) (λx l=>l) (λ_ l=>l):=by
 cases h;intro w S z;have g:Calls Tryz.prog 120 #[Value.agg #[vS b.1,d,f]] w λe o=>e = .returned (.bool true)∧MC w o:=by
  rcases z _ (List.mem_of_getElem? (i:=2) rfl)with v
  ·refine Vi (fuel:=4000) ajH Te ?_ v;obtain⟨p,n,s⟩:=Yv Zt;rw[Gi (G:=gp0) GI]at n;exact⟨p,n,s⟩
 refine g.mono ?_;rintro e o ⟨rfl,c⟩;exact⟨(),rfl,⟨c.os,c.tape,c.output,c.size,λk t _=>c.block k t⟩,λ_ _=>False,⟨λi m u=>by simp at u,λi k h=>h.elim,λi j k h=>h.elim⟩,λq y=>by simp at y⟩
end Go.Proofs.YtlkhndebimcbbaaGreatDoor
namespace Go.Proofs.YtlkhndebimcbbaaGreatDoor
open Go Go.Sx
abbrev ahz:=Ep
abbrev PRG:=ByteArray×(List ahz)×(List xR)
abbrev GRF:=List Int×fW
abbrev SCN:=PRG×GRF×Int×bF
abbrev WLK:=SCN×bF×Int×fM
inductive E where
 |lf (o a:Int)
 |un (o:Int) (x:E)
 |ag (o:Int) (x:E)
 |bi (o:Int) (x y:E)
 |ite (x y z:E)
def E.ts:E->fM
 |lf o a=>[(o,a)]
 |un o x=>(o,0)::x.ts
 |ag o x=>(o,0)::x.ts
 |bi o x y=>(o,0)::(x.ts++y.ts)
 |ite x y z=>(43,0)::(x.ts++(y.ts++z.ts))
def E.depth:E->Nat
 |lf _ _=>1
 |un _ x=>x.depth+1
 |ag _ x=>x.depth+1
 |bi _ x y=>max x.depth y.depth+1
 |ite x y z=>max x.depth (max y.depth z.depth)+1
def E.arOk:E->Bool
 |lf o _=>decide (1<=o)&&decide (o<=17)
 |un o x=>decide (18<=o)&&decide (o<=19)&&x.arOk
 |ag o x=>decide (20<=o)&&decide (o<=29)&&x.arOk
 |bi o x y=>decide (30<=o)&&decide (o<=42)&&x.arOk&&y.arOk
 |ite x y z=>x.arOk&&y.arOk&&z.arOk
theorem Tc {b:Type} [Inhabited b] {T a rest:List b} {x:b} {k:Nat} (c:T=a++x::rest) (d:a.length=k):at' T (k:Int)=x:=by
 subst c;exact UN a rest x k d
theorem fT {k:Nat} (h:k<1000000):wI .i64 ((k:Int)+1)=((k+1:Nat):Int):=by rw[wr (by omega) (by omega)];rfl
theorem WG (f:Nat) {o:Int} (a:1<=o) (b:o<=43):wY f o=some (if o<=17 then 0 else if o<=29 then 1 else if o<=42 then 2 else 3):=by
 unfold wY yY;rw[if_neg (by omega)];simp only[decide_eq_true_eq];rw[if_neg (by omega)];split
 ·rfl
 ·split
  ·rfl
  ·split<;>rfl
theorem Xq {F:Nat} {T c rest:fM} {t:fP} {k m a:Nat} {b:Nat} (d:T=c++t::rest) (g:c.length=k) (i:k<1000) (n:m<3000) (e:wY F t.1=some ((a:Nat):Int)) (f:a<=3) (j:m+a≠0):
  bJ (lO F T) (b+1) ((k:Int),(m:Int))=if m+a=1 then some (((k+1:Nat):Int))else bJ (lO F T) b (((k+1:Nat):Int),((m+a - 1:Nat):Int)):=by
 have l:k<T.length:=by rw[d];simp;omega
 show lO F T ((k:Int),(m:Int)) (bJ (lO F T) b)=_;unfold lO;dsimp only;rw[if_pos (by omega),cA (by omega),Tc d g,bH e,if_neg (by omega),wr (x:=((a:Nat):Int) - 1) (by omega) (by omega),wr (by omega) (by omega),fT (by omega)];by_cases h:m+a=1
 ·rw[if_pos h,if_pos (by omega)]
 ·rw[if_neg h,if_neg (by omega)];have:(m:Int)+((a:Int) - 1)=((m+a - 1:Nat):Int):=by omega
  rw[this]
theorem aaS (F:Nat) (T:fM) (H:T.length<=900):∀(e:E),e.arOk=true->∀(c k m:Nat) (d b:fM),T=d++(e.ts++b)->d.length=k->1<=m->m+2*(e.ts++b).length<=1900->e.ts.length<=c->
  bJ (lO F T) c ((k:Int),(m:Int))=if m=1 then some (((k+e.ts.length:Nat):Int))else bJ (lO F T) (c - e.ts.length) (((k+e.ts.length:Nat):Int),((m - 1:Nat):Int)):=by
 have r:∀{t:fP} {l b d:fM} {c k m:Nat},T=d++((t::l)++b)->d.length=k->(t::l).length<=c->1<=t.1->t.1<=43->1<=m->m+2*((t::l)++b).length<=1900->∀a:Nat,(if t.1<=17 then 0 else if t.1<=29 then 1 else if t.1<=42 then 2 else 3:Int)=a->a<=3->∃f,c=f+1∧
   bJ (lO F T) c ((k:Int),(m:Int))=if m+a=1 then some (((k+1:Nat):Int))else bJ (lO F T) f (((k+1:Nat):Int),((m+a - 1:Nat):Int)):=by
  intro t l b d c k m n p q v w i j a I B;have A:=congrArg List.length n;simp only[List.length_append,List.length_cons]at A j q;obtain⟨f,rfl⟩:∃f,c=f+1:=⟨c - 1,by omega⟩
  exact⟨f,rfl,Xq (rest:=l++b) (by simpa using n) p (by omega) (by omega) (by rw[WG F v w,I]) B (by omega)⟩
 intro e
 induction e with
 |lf o a=>
  intro g c k m d b n p i j q;simp only[E.arOk,Bool.and_eq_true,decide_eq_true_eq]at g;obtain⟨f,rfl,h⟩:=r (t:=(o,a)) (l:=[]) n p q (by dsimp only;omega) (by dsimp only;omega) i j 0 (by rw[if_pos (by dsimp only;omega)];rfl) (by omega);rw[h];rfl
 |un o x C=>
  intro g c k m d b n p i j q;simp only[E.arOk,Bool.and_eq_true,decide_eq_true_eq]at g;obtain⟨f,rfl,h⟩:=r (t:=(o,0)) (l:=x.ts) n p q (by dsimp only;omega) (by dsimp only;omega) i j 1 (by rw[if_neg (by dsimp only;omega),if_pos (by dsimp only;omega)];rfl) (by omega);simp only[E.ts,List.length_cons]at q j ⊢;rw[h,if_neg (by omega)];have:=C g.2 f (k+1) m (d++[(o,0)]) b (by rw[n];simp[E.ts]) (by simp[p]) i (by simp at j ⊢;omega) (by omega);rw[show m+1 - 1=m by omega,this,show k+1+x.ts.length=k+(x.ts.length+1) by omega,show f+1 - (x.ts.length+1)=f - x.ts.length by omega]
 |ag o x C=>
  intro g c k m d b n p i j q;simp only[E.arOk,Bool.and_eq_true,decide_eq_true_eq]at g;obtain⟨f,rfl,h⟩:=r (t:=(o,0)) (l:=x.ts) n p q (by dsimp only;omega) (by dsimp only;omega) i j 1 (by rw[if_neg (by dsimp only;omega),if_pos (by dsimp only;omega)];rfl) (by omega);simp only[E.ts,List.length_cons]at q j ⊢;rw[h,if_neg (by omega)];have:=C g.2 f (k+1) m (d++[(o,0)]) b (by rw[n];simp[E.ts]) (by simp[p]) i (by simp at j ⊢;omega) (by omega);rw[show m+1 - 1=m by omega,this,show k+1+x.ts.length=k+(x.ts.length+1) by omega,show f+1 - (x.ts.length+1)=f - x.ts.length by omega]
 |bi o x y s u=>
  intro g c k m d b n p i j q;simp only[E.arOk,Bool.and_eq_true,decide_eq_true_eq]at g;obtain⟨f,rfl,h⟩:=r (t:=(o,0)) (l:=x.ts++y.ts) n p q (by dsimp only;omega) (by dsimp only;omega) i j 2 (by rw[if_neg (by dsimp only;omega),if_neg (by dsimp only;omega),if_pos (by dsimp only;omega)];rfl) (by omega);simp only[E.ts,List.length_cons,List.length_append]at q j ⊢;rw[h,if_neg (by omega)];have v:=s g.1.2 f (k+1) (m+1) (d++[(o,0)]) (y.ts++b) (by rw[n];simp[E.ts]) (by simp[p]) (by omega) (by simp at j ⊢;omega) (by omega);have w:=u g.2 (f - x.ts.length) (k+1+x.ts.length) m (d++((o,0)::x.ts)) b (by rw[n];simp[E.ts]) (by simp[p];omega) (by omega) (by simp at j ⊢;omega) (by omega);rw[show m+2 - 1=m+1 by omega,v,if_neg (by omega),show m+1 - 1=m by omega,w,show k+1+x.ts.length+y.ts.length=k+(x.ts.length+y.ts.length+1) by omega,show f+1 - (x.ts.length+y.ts.length+1)=f - x.ts.length - y.ts.length by omega]
 |ite x y z s u D=>
  intro g c k m d b n p i j q;simp only[E.arOk,Bool.and_eq_true,decide_eq_true_eq]at g;obtain⟨f,rfl,h⟩:=r (t:=(43,0)) (l:=x.ts++(y.ts++z.ts)) n p q (by decide) (by decide) i j 3 Z (by omega);simp only[E.ts,List.length_cons,List.length_append]at q j ⊢;rw[h,if_neg (by omega)];have v:=s g.1.1 f (k+1) (m+2) (d++[(43,0)]) (y.ts++z.ts++b) (by rw[n];simp[E.ts]) (by simp[p]) (by omega) (by simp at j ⊢;omega) (by omega);have w:=u g.1.2 (f - x.ts.length) (k+1+x.ts.length) (m+1) (d++((43,0)::x.ts)) (z.ts++b) (by rw[n];simp[E.ts]) (by simp[p];omega) (by omega) (by simp at j ⊢;omega) (by omega);have G:=D g.2 (f - x.ts.length - y.ts.length) (k+1+x.ts.length+y.ts.length) m (d++((43,0)::(x.ts++y.ts))) b (by rw[n];simp[E.ts]) (by simp[p];omega) (by omega) (by simp at j ⊢;omega) (by omega);rw[show m+3 - 1=m+2 by omega,v,if_neg (by omega),show m+2 - 1=m+1 by omega,w,if_neg (by omega),show m+1 - 1=m by omega,G,show k+1+x.ts.length+y.ts.length+z.ts.length=k+(x.ts.length+(y.ts.length+z.ts.length)+1) by omega,show f+1 - (x.ts.length+(y.ts.length+z.ts.length)+1)=f - x.ts.length - y.ts.length - z.ts.length by omega]
theorem adV (F:Nat) (e:E) (d:e.arOk=true) {T b a:fM} {k:Nat} (f:T=b++(e.ts++a)) (i:b.length=k) (j:T.length<=800) (h:e.ts.length<=F):CE F T (k:Int)=some (((k+e.ts.length:Nat):Int)):=by
 have g:1<=e.ts.length:=by cases e<;>simp[E.ts]
 have c:=congrArg List.length f;simp only[List.length_append]at c;unfold CE Br;rw[if_neg (by omega)];simp only[decide_eq_true_eq];rw[if_neg (by omega)];have:=aaS F T (by omega) e d F k 1 b a f i (by omega) (by simp;omega) h;rw[if_pos Z]at this;exact this
def AE (b:Bool):Int:=if b then 1 else 0
theorem uE (f:Nat) (b:Bool):iX f b=some (AE b):=by cases b<;>rfl
theorem EM {a:Type} [Inhabited a] {l:List a} {k:Nat} (h:k<l.length):l.take (k+1)=l.take k++[at' l (k:Int)]:=by
 rw[List.take_add_one,List.getElem?_eq_getElem h,fQ,List.getD_eq_getElem?_getD,List.getElem?_eq_getElem h];rfl
theorem lS {a:Type} [Inhabited a] {l:List a} {k:Nat} (h:k<l.length):at' l (k:Int)=l[k]:=by
 rw[fQ,List.getD_eq_getElem?_getD,List.getElem?_eq_getElem h];rfl
theorem Gu {p:Nat->Prop}:∀(n:Nat),p n->∃m,m<=n∧p m∧∀j,j<m->¬p j:=by
 intro n
 induction n using Nat.strongRecOn with
 | _ n ih =>
  intro h;by_cases d:∃m,m<n∧p m
  ·obtain⟨m,e,f⟩:=d;obtain⟨k,a,b,c⟩:=ih m e f;exact⟨k,by omega,b,c⟩
  ·exact⟨n,Nat.le_refl n,h,λj g i=>d ⟨j,g,i⟩⟩
theorem TR {g:Type} [DecidableEq g]:∀(c b:List g),c.Nodup->(∀x∈c,x∈b)->c.length<=b.length
 | [],b,_,_=>Nat.zero_le _
 |a::c,b,h,hs=>by
  have d:=hs a List.mem_cons_self;have h:=List.nodup_cons.1 h;have:=TR c (b.erase a) h.2 (λx f=>(List.mem_erase_of_ne (fun(e:x=a)=>h.1 (by rw[<-e];exact f))).2 (hs x (List.mem_cons_of_mem _ f)));rw[List.length_erase_of_mem d]at this;have i:0<b.length:=List.length_pos_of_mem d;simp only[List.length_cons];omega
def nz (x:Int):Bool:=decide (x≠0)
theorem Xg (f:Nat) (l:aQ) (h:l.length<f) (e:l.length<=1000):qJ f l=some ((l.countP nz:Nat):Int):=by
 unfold qJ;have:=eY (step:=rH l) (K:=some ((l.countP nz:Nat):Int)) l.length (λk=>(((l.take k).countP nz:Nat),(k:Int))) (λk b c=>by
  have d:(l.take k).countP nz<=k:=Nat.le_trans List.countP_le_length (by simp;omega);unfold rH tY;dsimp only;rw[if_pos (by omega),cA (by omega),EM c,List.countP_append,fT (by omega),fT (by omega)];by_cases a:at' l (k:Int)=0
  ·rw[if_neg (by simpa using a)];simp[nz,a]
  ·rw[if_pos a];simp[nz,a]) (λb=>by
  unfold rH yM;dsimp only;rw[if_neg (by omega),List.take_length]) f h
 exact this
theorem HY (f:Nat) (l:aQ) (x:Int) (h:l.length<f) (t:l.length<=1000):rP f l x=some (decide (x∈l)):=by
 have q:∃i:Int,pZ f l x=some i∧(0<=i↔x∈l):=by
  by_cases b:x∈l
  ·obtain⟨i,r,o⟩:=List.mem_iff_getElem.1 b;have a:∃i,i<l.length∧at' l (i:Int)=x∧∀j,j<i->at' l (j:Int)≠x:=by
    obtain⟨m,d,c,s⟩:=Gu (p:=λi=>at' l (i:Int)=x) i (by rw[lS r,o]);exact⟨m,by omega,c,s⟩
   obtain⟨i,r,d,c⟩:=a;refine⟨i,?_,iff_of_true (by omega) b⟩
   unfold pZ;exact eY (step:=kG l x) (K:=some (i:Int)) i (λk=>(k:Int)) (λk n g=>by
    unfold kG;rw[if_pos (by omega),cA (by omega),if_neg (λe=>c k g e.symm),fT (by omega)]) (λn=>by
    unfold kG;rw[if_pos (by omega),cA (by omega),if_pos d.symm]) f (by omega)
  ·refine⟨-1,?_,iff_of_false (by omega) b⟩
   unfold pZ;exact eY (step:=kG l x) (K:=some (-1)) l.length (λk=>(k:Int)) (λk n g=>by
    unfold kG;rw[if_pos (by omega),cA (by omega),if_neg (λe=>b (by rw[e,lS g];exact List.getElem_mem g)),fT (by omega)]) (λn=>by
    unfold kG u_;rw[if_neg (by omega)]) f h
 obtain⟨i,d,c⟩:=q;unfold rP;rw[bH d];by_cases b:x∈l
 ·rw[decide_eq_true b,decide_eq_true (c.2 b)]
 ·rw[decide_eq_false b,decide_eq_false (λe=>b (c.1 e))]
def qH (l:aQ):Int:=match l.findIdx? nz with
 |some i=>(i:Int)
 |none=> -1
theorem sD {l:aQ} {i:Nat} (a:i<l.length) (b:at' l (i:Int)≠0) (c:∀j,j<i->at' l (j:Int)=0):qH l=i:=by
 have:l.findIdx? nz=some i:=by
  rw[List.findIdx?_eq_some_iff_getElem];refine⟨a,by rw[<-lS a];simpa [nz]using b,λj d=> ?_⟩
  have:=c j d;rw[lS (by omega)]at this;simp[nz,this]
 unfold qH;rw[this]
theorem Bi {l:aQ} (h:∀j,j<l.length->at' l (j:Int)=0):qH l = -1:=by
 have:l.findIdx? nz=none:=by
  rw[List.findIdx?_eq_none_iff];intro x b;obtain⟨i,a,rfl⟩:=List.mem_iff_getElem.1 b;have:=h i a;rw[lS a]at this;simp[nz,this]
 unfold qH;rw[this]
theorem XF (f:Nat) (l:aQ) (h:l.length<f) (t:l.length<=1000):mX f l (λq=>oO f q)=some (qH l):=by
 unfold mX;by_cases a:∃i,i<l.length∧at' l (i:Int)≠0
 ·obtain⟨i,s,o⟩:=a;obtain⟨m,r,n,b⟩:=Gu (p:=λi=>at' l (i:Int)≠0) i o;have b:∀j,j<m->at' l (j:Int)=0:=λj d=>Decidable.not_not.1 (b j d);rw[sD (by omega) n b];exact eY (step:=gC l _) (K:=some (m:Int)) m (λk=>(k:Int)) (λk c g=>by
   unfold gC oO;rw[if_pos (by omega),cA (by omega),bH Z,if_neg (by simp[b k g]),fT (by omega)]) (λc=>by
   unfold gC oO;rw[if_pos (by omega),cA (by omega),bH Z,if_pos (by simpa using n)]) f (by omega)
 ·have a:∀j,j<l.length->at' l (j:Int)=0:=λj d=>Decidable.not_not.1 λe=>a ⟨j,d,e⟩;rw[Bi a];exact eY (step:=gC l _) (K:=some (-1)) l.length (λk=>(k:Int)) (λk c g=>by
   unfold gC oO;rw[if_pos (by omega),cA (by omega),bH Z,if_neg (by simp[a k g]),fT (by omega)]) (λc=>by
   unfold gC pE;rw[if_neg (by omega)]) f h
def zU (l:aQ):Int:=l.foldl min 1073741824
theorem aev (f:Nat) (l:aQ) (h:l.length<f) (c:l.length<=1000):bJ (sW l) f ((1073741824:Int),(0:Int))=some (zU l):=by
 exact eY (step:=sW l) (K:=some (zU l)) l.length (λk=>((l.take k).foldl min 1073741824,(k:Int))) (λk a b=>by
  unfold sW;dsimp only;rw[if_pos (by omega),cA (by omega),EM b,List.foldl_append,fT (by omega)];rfl) (λa=>by
  unfold sW An;dsimp only;rw[if_neg (by omega),List.take_length];rfl) f h
theorem Nt {l:aQ} {x:Int} (h:x∈l):zU l<=x:=by
 have c:∀(l:aQ) (a:Int),l.foldl min a<=a∧∀x∈l,l.foldl min a<=x:=by
  intro l
  induction l with
  |nil=>intro a;exact⟨Int.le_refl a,λx b=>by cases b⟩
  |cons y l e=>
   intro a;obtain⟨f,d⟩:=e (min a y);refine⟨by simp only[List.foldl_cons];omega,λx b=> ?_⟩
   rcases List.mem_cons.1 b with rfl|b
   ·simp only[List.foldl_cons];omega
   ·exact d x b
 exact(c l _).2 x h
theorem Kh (l:aQ):zU l=1073741824∨zU l∈l:=by
 have b:∀(l:aQ) (a:Int),l.foldl min a=a∨l.foldl min a∈l:=by
  intro l
  induction l with
  |nil=>intro a;exact .inl Z
  | cons y l ih =>
   intro a;rcases ih (min a y)with h|h
   ·simp only[List.foldl_cons,h];rcases Int.le_total a y with q|q
    ·left;omega
    ·right;rw[show min a y=y by omega];exact List.mem_cons_self
   ·right;exact List.mem_cons_of_mem _ h
 exact b l _
def Ps (l:aQ):Nat->Nat->Nat
 |0,k=>k
 |f+1,k=>if((k:Nat):Int)∈l then Ps l f (k+1)else k
def RY (l:aQ):Nat:=Ps l (l.length+1) 0
theorem Ym (l:aQ):((RY l:Nat):Int)∉l∧(∀j,j<RY l->((j:Nat):Int)∈l)∧RY l<=l.length:=by
 have key:∀(f k:Nat),(∀j,j<k->((j:Nat):Int)∈l)->(∀j,j<Ps l f k->((j:Nat):Int)∈l)∧(Ps l f k=k+f∨((Ps l f k:Nat):Int)∉l):=by
  intro f
  induction f with
  |zero=>intro k h;exact⟨h,.inl Z⟩
  | succ f ih =>
   intro k h;by_cases hk:((k:Nat):Int)∈l
   ·have:=ih (k+1) (λj hj=>by
     rcases Nat.lt_or_ge j k with q|q
     ·exact h j q
     ·rw[show j=k by omega];exact hk)
    simp only[Ps,if_pos hk];exact⟨this.1,this.2.imp (λe=>by omega) id⟩
   ·simp only[Ps,if_neg hk];exact⟨h,.inr hk⟩
 have hle:∀m,(∀j,j<m->((j:Nat):Int)∈l)->m<=l.length:=λm h=>by
  have:=TR ((List.range m).map λj=>((j:Nat):Int)) l (by
   rw[List.nodup_iff_pairwise_ne,List.pairwise_map];exact(List.nodup_iff_pairwise_ne.1 List.nodup_range).imp (λh e=>h (by omega))) (λx hx=>by
   obtain⟨j,hj,rfl⟩:=List.mem_map.1 hx;exact h j (List.mem_range.1 hj))
  simpa using this
 obtain⟨h1,h2⟩:=key (l.length+1) 0 (λj hj=>by omega);have h3:=hle _ h1;refine⟨?_,h1,h3⟩
 rcases h2 with h2|h2
 ·have:Ps l (l.length+1) 0<=l.length:=h3;omega
 ·exact h2
theorem aeu (f:Nat) (l:aQ) (h:l.length+2<f) (hl:l.length<=900):AL f l=some ((RY l:Nat):Int):=by
 obtain⟨h1,h2,h3⟩:=Ym l;unfold AL;exact eY (step:=zD f l) (K:=some ((RY l:Nat):Int)) (RY l) (λk=>(k:Int)) (λk ag hk=>by
  unfold zD;rw[bH (HY f l (k:Int) (by omega) (by omega)),if_pos (by simpa using h2 k hk),fT (by omega)]) (λag=>by
  unfold zD Bh;rw[bH (HY f l _ (by omega) (by omega)),if_neg (by simpa using h1)]) f (by omega)
def P_ (l:aQ):Int:=l.foldl (λa x=>wI .i64 (a+x)) 0
theorem aeM (f:Nat) (l:aQ) (h:l.length<f) (c:l.length<=1000):bJ (sX f l) f ((0:Int),(0:Int))=Cu f (P_ l):=by
 refine(eY (step:=sX f l) l.length (λk=>(P_ (l.take k),(k:Int))) (λk a b=> ?_) (λa=> ?_) f h).trans Z
 ·unfold sX;dsimp only;rw[if_pos (by omega),cA (by omega),fT (by omega),EM b];unfold P_;rw[List.foldl_append];rfl
 ·unfold sX;dsimp only;rw[if_neg (by omega),List.take_length]
def Tz (o:Int) (l:aQ):Int:=
 if o=20 then AE (l.all nz)else if o=21 then AE (l.any nz)else if o=22 then((l.countP nz:Nat):Int)else if o=23 then qH l else if o=24 then zU l else if o=26 then max (-1073741824) (min (P_ l) 1073741824)else((RY l:Nat):Int)
theorem aa_ (f:Nat) (o:Int) (l:aQ) (hf:40<=f) (hl:l.length<=24) (ho:o=20∨o=21∨o=22∨o=23∨o=24∨o=26∨o=27):Bm f o l=some (Tz o l):=by
 have hc:=Xg f l (by omega) (by omega);unfold Bm;rcases ho with rfl|rfl|rfl|rfl|rfl|rfl|rfl
 ·rw[if_pos Z,bH hc,bH (uE f _),Tz,if_pos Z];have:(decide (((l.countP nz:Nat):Int)=(l.length:Int)))=l.all nz:=by
   rw[Bool.eq_iff_iff];simp[List.countP_eq_length,Int.ofNat_inj]
  rw[this]
 ·rw[if_neg (by decide),if_pos Z,bH hc,bH (uE f _),Tz,if_neg (by decide),if_pos Z];have:(decide ((0:Int)<((l.countP nz:Nat):Int)))=l.any nz:=by
   rw[Bool.eq_iff_iff,decide_eq_true_eq,List.any_eq_true,show((0:Int)<((l.countP nz:Nat):Int))↔0<l.countP nz by omega,List.countP_pos_iff]
  rw[this]
 ·rw[if_neg (by decide),if_neg (by decide),if_pos Z,bH hc];rfl
 ·rw[if_neg (by decide),if_neg (by decide),if_neg (by decide),if_pos Z,bH (XF f l (by omega) (by omega))];rfl
 ·rw[if_neg (by decide),if_neg (by decide),if_neg (by decide),if_neg (by decide),if_pos Z,aev f l (by omega) (by omega)];rfl
 ·rw[if_neg (by decide),if_neg (by decide),if_neg (by decide),if_neg (by decide),if_neg (by decide),if_neg (by decide),if_pos Z,aeM f l (by omega) (by omega)];rfl
 ·rw[if_neg (by decide),if_neg (by decide),if_neg (by decide),if_neg (by decide),if_neg (by decide),if_neg (by decide),if_neg (by decide),if_pos Z,bH (aeu f l (by omega) (by omega))];rfl
end Go.Proofs.YtlkhndebimcbbaaGreatDoor
namespace Go.Proofs.YtlkhndebimcbbaaGreatDoor
open Go.Sx
def sU  (a:aQ):Option aQ:=
 some (a)
def sV (a:lB) (c:rA->Option aQ) (b:aQ):Option aQ:=
 c ((wI .i64 (a.1+(1:Int))),b)
def pQ (d:cE) (a:lB) (e:rA->Option aQ) (b:lB) (c:rA->Option aQ):Option aQ:=
 if b.1<(List.length (at' d.2 a.1):Int)then(ck (0<=b.1∧b.1<(List.length (at' d.2 a.1):Int)) (ck (0<=a.1∧a.1<(List.length b.2:Int)) (ck (0<=((at' (at' d.2 a.1) b.1).1)) (ck (0<=a.1∧a.1<(List.length b.2:Int)) (c ((wI .i64 (b.1+(1:Int))),(List.set b.2 (Int.toNat a.1) (MQ .u32 (at' b.2 a.1) (Cn .u32 (1:Int) ((at' (at' d.2 a.1) b.1).1))))))))))else(sV a e (b.2))
def kU (U:Nat) (c:cE) (a:lB) (b:rA->Option aQ):Option aQ:=
 if a.1<(List.length c.2:Int)then(ck (0<=a.1∧a.1<(List.length c.2:Int)) (bJ (pQ c a b) U ((0:Int),a.2)))else(sU  (a.2))
def nT (U:Nat) (a:cE):Option aQ:=
 ck (0<=(List.length a.2:Int)∧(List.length a.2:Int)<=1099511627) (bJ (kU U a) U ((0:Int),(List.replicate (Int.toNat (List.length a.2:Int)) (0:Int))))
theorem adw:aX Tryz.prog 76:=Tryz.call76
theorem Ix (U:Nat) {d:cE} (v:Value)  (j:Value)  (y:k_) (r:aQ) (h:nT U d=some r):
  aY Tryz.prog 76 #[Value.agg #[v,j]] [Sl bO v d.1,S2 bB j y d.2] (λx:Value=>x) (λx l=>Ar pF x r::l) (λ_ l=>l):=by
 refine aY.of Tryz.func76 Z Tryz.ntmps76 Z λc=>?_;refine aV<|aH (aN.box (cs:=[v,j]) Z Z) Z λD=>aE Z<|aM<|aV<|bT Z<|dD 0 Z<|aB (iF Z (aF.fact 1 Z) Z) Z<|cX h λB h=>aH (mH (e:=pF) (0:Int) Z Z Z Z B Z Z Z) Z λi=>aE Z<|aM<|aK<|dO (λk=>sU  k=some r) (λk w=>[(3,i)]) (λk w=>[Ar pF i k]) ?_ ?_
 ·refine aV<|bT Z<|dD 1 Z<|aB (iF Z (aF.fact 1 Z) Z) Z<|aA Z<|aM<|aS<|dU (kU U d) (λa m=>[(3,i),(13,j),(14,vI (List.length d.2:Int)),(15,vI (a.1))]) (λa m=>[Ar pF i a.2]) ((0:Int),(List.replicate (Int.toNat (List.length d.2:Int)) (0:Int))) () h SF (a_.ix [0] Z Z) ?_;intro t a m h;refine aV<|cM Z<|aM<|aK ?_;refine eV h Z (λh=>?_) λh=>?_
  ·refine cK<|aK<|dO (λg=>sV a (bJ (kU U d) t) g=some r) (λg n=>[(3,i),(13,j),(14,vI (List.length d.2:Int)),(15,vI (a.1))]) (λg n=>[Ar pF i g]) ?_ ?_
   ·refine aS<|aV<|aA Z<|cX h λf h=>aB (bX Z Z (aF.fact 1 Z) Z Z f) Z<|aB (bW Z (aF.fact 1 Z) Z Z f) Z<|aE Z<|aE Z<|aM<|aV<|aA Z<|aB (fX Z (aF.el (aF.fact 1 Z) f.1 f.2) Z) Z<|aA Z<|aM<|aS<|dU (pQ d a (bJ (kU U d) t)) (λb o=>[(3,i),(4,vI (a.1)),(13,j),(14,vI (List.length d.2:Int)),(15,vI (a.1)),(20,(at' y a.1).1),(21,vI (List.length (at' d.2 a.1):Int)),(22,vI (b.1))]) (λb o=>[Ar pF i b.2]) ((0:Int),a.2) () h SF (a_.refl _) ?_;intro C b o h;refine aV<|cM Z<|aM<|aK ?_;refine eV h Z (λh=>?_) λh=>?_
    ·refine cK<|aK<|aS<|aV<|cX h λp h=>aB (aZ Z Z (aF.el (aF.fact 1 Z) f.1 f.2) Z Z p) Z<|aB (jA (cs:=[vI ((at' (at' d.2 a.1) b.1).1),vI ((at' (at' d.2 a.1) b.1).2)]) Z (aF.el (aF.fact 1 Z) f.1 f.2) bU Z Z Z Z p) Z<|aH (aN.alloc (cs:=VH) Z Z) Z λA=>bS 0 (vs:=[vI ((at' (at' d.2 a.1) b.1).1),vI ((at' (at' d.2 a.1) b.1).2)]) Z Z Z Z Z Z<|aM ?_;refine JR.start [0,0,3,7,0,16,48,127,255,511] 7 mixedOrders (by decide +kernel) ?_;refine JR.open (by exact rfl) ?_;refine bG Z<|bG Z<|cX h λq h=>bK Z (a_.cons 1 Z .nil) .nil (aZ Z Z (bD (aF.res 0 Z) vG) Z Z q) aO.z<|bK Z (a_.cons 1 Z .nil) .nil (bQ Z (bD (aF.res 0 Z) vG) Z Z Z Hm q) aO.z<|dB Z<|jR 0 Z<|cX h λu h=>jS Z (OG Z Z u)<|bP 7 Z Z<|aB (ZQ Z Z) Z<|cX h λs h=>aB (aZ Z Z (bD (aF.res 1 Z) vG) Z Z s) Z<|tW 1 (MQ .u32 (at' b.2 a.1) (Cn .u32 (1:Int) ((at' (at' d.2 a.1) b.1).1))) s Z Z Z Z Z Z Z<|eI<|mA<|aR<|cH Z<|aA Z<|aM ?_;exact mG ((wI .i64 (b.1+(1:Int))),(List.set b.2 (Int.toNat a.1) (MQ .u32 (at' b.2 a.1) (Cn .u32 (1:Int) ((at' (at' d.2 a.1) b.1).1))))) () h SF (a_.ix [1] Z Z) (aG.refl _ _)
    refine pH<|dV<|dV<|vM<|mA ?_;exact iB (b.2) () h SF Z
   intro g n h;unfold sV at h;refine aR<|cH Z<|aA Z<|aM ?_;exact xT ((wI .i64 (a.1+(1:Int))),g) () h SF Z
  refine e_ ?_;exact iB (a.2) () h SF Z
 intro k w h;unfold sU at h;refine aV<|aA Z<|aE Z<|aM<|aW ?_;cases h;exact gH (i) Z Z (RV.tmp Z) (a_.refl _) aG.nil
end Go.Proofs.YtlkhndebimcbbaaGreatDoor
namespace Go.Proofs.YtlkhndebimcbbaaGreatDoor
open Go Go.Sx
structure UC (m k:Nat):Prop where
 bit:m.testBit k=true
 low:∀j,j<k->m.testBit j=false
theorem Nq {m:Nat} (h:m≠0):∃k,UC m k:=by
 obtain⟨i,c⟩:=Nat.exists_testBit_of_ne_zero h;obtain⟨k,_,a,b⟩:=Gu (p:=λi=>m.testBit i=true) i c;exact⟨k,a,λj d=>by simpa using b j d⟩
theorem PH {m k:Nat} (h:UC m k) (i:Nat):(m - 1).testBit i=if i<k then true else if i=k then false else m.testBit i:=by
 have b:m=2^(k+1)*(m / 2^(k+1))+2^k:=by
  refine Nat.eq_of_testBit_eq λi=> ?_;have a:2^k<2^(k+1):=Nat.pow_lt_pow_right (by omega) (by omega);rw[Nat.testBit_two_pow_mul_add _ a,Nat.testBit_two_pow,Nat.testBit_div_two_pow];rcases Nat.lt_trichotomy i k with q|q|q
  ·rw[if_pos (by omega),h.low i q,decide_eq_false (by omega)]
  ·subst q;rw[if_pos (by omega),h.bit,decide_eq_true Z]
  ·rw[if_neg (by omega),show i - (k+1)+(k+1)=i by omega]
 have c:0<2^k:=Nat.pow_pos (by omega);have a:2^k - 1<2^(k+1):=by rw[Nat.pow_succ];omega
 have e:m - 1=2^(k+1)*(m / 2^(k+1))+(2^k - 1):=by omega
 rw[e,Nat.testBit_two_pow_mul_add _ a,Nat.testBit_two_pow_sub_one,Nat.testBit_div_two_pow];rcases Nat.lt_trichotomy i k with q|q|q
 ·rw[if_pos (by omega),if_pos q,decide_eq_true q]
 ·subst q;rw[if_pos (by omega),if_neg (by omega),if_pos Z,decide_eq_false (by omega)]
 ·rw[if_neg (by omega),if_neg (by omega),if_neg (by omega),show i - (k+1)+(k+1)=i by omega]
theorem ajN {m:Nat} (b:m<4294967296) (a:m≠0):wI .u32 (0 - (m:Int))=((4294967296 - m:Nat):Int):=by
 rw[Er];have:IntKind.u32.wrap (0 - (m:Int))=(0 - (m:Int))%4294967296:=rfl;rw[this];omega
theorem ag_ {m:Nat} (b:m<4294967296) (a:m≠0):wI .u32 ((m:Int) - 1)=((m - 1:Nat):Int):=by
 rw[show(m:Int) - 1=((m - 1:Nat):Int) by omega,Er,My _ (by omega)]
theorem aeq {m k:Nat} (a:m<4294967296) (h:UC m k):dR .u32 (m:Int) (wI .u32 (0 - (m:Int)))=((2^k:Nat):Int):=by
 have b:m≠0:=λe=>by have:=h.bit;rw[e]at this;simp at this
 have c:k<32:=Ho a h.bit;rw[ajN a b,DK a (by omega)];congr 1;refine Nat.eq_of_testBit_eq λi=> ?_;rw[Nat.testBit_and,show 4294967296 - m=2^32 - ((m - 1)+1) by omega,Nat.testBit_two_pow_sub_succ (by omega),Nat.testBit_two_pow,PH h];rcases Nat.lt_trichotomy i k with q|q|q
 ·rw[h.low i q,decide_eq_false (show¬k=i by omega)];rfl
 ·subst q;rw[h.bit,if_neg (by omega),if_pos Z,decide_eq_true c,decide_eq_true Z];rfl
 ·rw[if_neg (by omega),if_neg (by omega),decide_eq_false (show¬k=i by omega)];cases m.testBit i<;>simp
theorem Rm {m k:Nat} (a:m<4294967296) (h:UC m k):∃b:Nat,dR .u32 (m:Int) (wI .u32 ((m:Int) - 1))=(b:Int)∧b<4294967296∧∀i,b.testBit i=(m.testBit i&&decide (i≠k)):=by
 have c:m≠0:=λe=>by have:=h.bit;rw[e]at this;simp at this
 refine⟨m &&& (m - 1),by rw[ag_ a c,DK a (by omega)],Rb a,λi=> ?_⟩
 rw[Nat.testBit_and,PH h];rcases Nat.lt_trichotomy i k with q|q|q
 ·rw[h.low i q];rfl
 ·subst q;simp
 ·rw[if_neg (by omega),if_neg (by omega)];have:decide (i≠k)=true:=decide_eq_true (by omega);rw[this];cases m.testBit i<;>rfl
theorem aeQ:∀k:Fin 32,((0:Int)<=r_ .u32 (wI .u32 ((((2^k.val:Nat):Int))*125613361)) 27∧r_ .u32 (wI .u32 ((((2^k.val:Nat):Int))*125613361)) 27<((32:Nat):Int))∧wI .i64 (at' xM (r_ .u32 (wI .u32 ((((2^k.val:Nat):Int))*125613361)) 27))=(k.val:Int):=by decide +kernel
theorem acw (f:Nat) {m k:Nat} (a:m<4294967296) (h:UC m k):jV f (m:Int)=some (k:Int):=by
 have d:m≠0:=λe=>by have:=h.bit;rw[e]at this;simp at this
 obtain⟨b,c⟩:=aeQ ⟨k,Ho a h.bit⟩;unfold jV;rw[if_neg (by omega),cA (by decide),aeq a h,cA ⟨b,rfl⟩,c]
structure Oj (g:GR) (r:aQ):Prop where
 len:r.length=g.2.length
 at':∀v:Nat,v<g.2.length->∃m:Nat,Go.Sx.at' r (v:Int)=(m:Int)∧m<4294967296∧∀u,m.testBit u=true↔KU g v u
theorem aex {g:GR} (I:VG g):∃r,nT 1000 g=some r∧Oj g r:=by
 have R:=I.n24;unfold nT;rw[cA (by omega)];obtain⟨⟨a,r⟩,⟨y,B,C⟩,J⟩:=BU (step:=kU 1000 g) (K:=λz=>some z.2) g.2.length
  (λk z=>z.1=(k:Int)∧z.2.length=g.2.length∧∀v:Nat,v<g.2.length->∃m:Nat,Go.Sx.at' z.2 (v:Int)=(m:Int)∧m<4294967296∧∀u,m.testBit u=true↔v<k∧KU g v u) (λk z E M G=>by
  obtain⟨a,r⟩:=z;obtain⟨y,B,C⟩:=G;dsimp only at y B C;subst y;have O:=(I.node k M).deg;obtain⟨⟨b,U⟩,⟨s,d,c⟩,J⟩:=BU (step:=pQ g ((k:Int),r) E) (K:=λz=>E (((k+1:Nat):Int),z.2)) (row g k).length
   (λj z=>z.1=(j:Int)∧z.2.length=g.2.length∧∀v:Nat,v<g.2.length->∃m:Nat,Go.Sx.at' z.2 (v:Int)=(m:Int)∧m<4294967296∧∀u,m.testBit u=true↔(v<k∧KU g v u)∨(v=k∧∃i,i<j∧(fL (row g k) i).1=(u:Int))) (λj z F S H=>by
   obtain⟨b,q⟩:=z;obtain⟨s,d,c⟩:=H;dsimp only at s d c;subst s;obtain⟨w,V,x,N⟩:=I.port M S;obtain⟨m,T,l,t⟩:=c k M;refine⟨(((j+1:Nat):Int),q.set k (((m ||| 2^w:Nat)):Int)),⟨rfl,by simpa using d,λv f=> ?_⟩,?_⟩
   ·show∃P,Go.Sx.at' (q.set k _) (v:Int)=_∧_;rw[tP q k v _ (by omega)];by_cases e:v=k
    ·subst e;refine⟨_,if_pos Z,aco l (Ij (by omega)),λu=> ?_⟩
     rw[Nat.testBit_or,Nat.testBit_two_pow,Bool.or_eq_true,t u,decide_eq_true_eq];constructor
     ·rintro((h|⟨_,i,A,h⟩)|h)
      ·exact .inl h
      ·exact .inr ⟨rfl,i,by omega,h⟩
      ·exact .inr ⟨rfl,j,by omega,by rw[x,h]⟩
     ·rintro(h|⟨_,i,A,h⟩)
      ·exact .inl (.inl h)
      ·by_cases L:i=j
       ·subst L;right;rw[x]at h;omega
       ·exact .inl (.inr ⟨rfl,i,by omega,h⟩)
    ·obtain⟨P,n,o,p⟩:=c v f;refine⟨P,by rw[if_neg e];exact n,o,λu=> ?_⟩
     rw[p u];constructor
     ·rintro(h|⟨h,_⟩)
      ·exact .inl h
      ·exact absurd h e
     ·rintro(h|⟨h,_⟩)
      ·exact .inl h
      ·exact absurd h e
   ·unfold pQ;dsimp only;rw[if_pos (show(j:Int)<((row g k).length:Int) by omega),cA (show 0<=(j:Int)∧(j:Int)<((row g k).length:Int) by omega),cA (by omega),show Go.Sx.at' (Go.Sx.at' g.2 (k:Int)) (j:Int)=fL (row g k) j from rfl,x,cA (by omega),cA (by omega),T,Re l (by omega),fT (by omega),Int.toNat_natCast]) (λz F H=>by
   obtain⟨b,q⟩:=z;obtain⟨s,d,c⟩:=H;dsimp only at s d c;subst s;unfold pQ sV;dsimp only;rw[if_neg (show¬((row g k).length:Int)<((row g k).length:Int) by omega),fT (by omega)]) 1000 ((0:Int),r) ⟨rfl,B,λv f=>by
    obtain⟨m,n,o,p⟩:=C v f;refine⟨m,n,o,λu=> ?_⟩
    rw[p u];constructor
    ·exact λh=> .inl h
    ·rintro(h|⟨_,i,A,_⟩)
     ·exact h
     ·omega⟩ (by omega)
  dsimp only at s d c;refine⟨(((k+1:Nat):Int),U),⟨rfl,d,λv f=> ?_⟩,?_⟩
  ·obtain⟨m,n,o,p⟩:=c v f;refine⟨m,n,o,λu=> ?_⟩
   rw[p u];constructor
   ·rintro(⟨Q,D⟩|⟨rfl,i,A,h⟩)
    ·exact⟨by omega,D⟩
    ·exact⟨by omega,i,A,h⟩
   ·rintro⟨Q,D⟩;by_cases e:v=k
    ·subst e;obtain⟨i,A,h⟩:=D;exact .inr ⟨rfl,i,A,h⟩
    ·exact .inl ⟨by omega,D⟩
  ·unfold kU;dsimp only;rw[if_pos (by omega),cA (by omega)];exact J) (λz E G=>by
  obtain⟨a,r⟩:=z;obtain⟨y,B,C⟩:=G;dsimp only at y;subst y;unfold kU sU;dsimp only;rw[if_neg (by omega)]) 1000 ((0:Int),List.replicate (Int.toNat (g.2.length:Int)) (0:Int)) ⟨rfl,by simp,λv f=>⟨0,by
   rw[Int.toNat_natCast,lS (by simpa using f)];simp,by omega,λu=>by simp⟩⟩ (by omega)
 refine⟨r,J,B,λv f=> ?_⟩
 obtain⟨m,n,o,p⟩:=C v f;exact⟨m,n,o,λu=>by rw[p u];exact⟨λh=>h.2,λh=>⟨f,h⟩⟩⟩
def QE (g:GR) (m:Nat):Prop:=∀i,m.testBit i=true->i<g.2.length
theorem QE.lt {g:GR} (b:VG g) {m:Nat} (h:QE g m):m<16777216:=by
 have a:=b.n24;refine Nat.lt_of_lt_of_le (Nat.lt_pow_two_of_testBit (n:=24) m λi d=> ?_) (Nat.le_refl _);cases c:m.testBit i with
 |false=>rfl
 |true=>have:=h i c;omega
theorem ago {m:Nat} (h:∀i,i<32->m.testBit i=false) (b:m<4294967296):m=0:=by
 refine Nat.eq_of_testBit_eq λi=> ?_;rw[Nat.zero_testBit];rcases Nat.lt_or_ge i 32 with q|q
 ·exact h i q
 ·cases a:m.testBit i with
  |false=>rfl
  |true=>have:=Ho b a;omega
theorem RH {g:GR} (z:VG g) {r:aQ} (y:Oj g r) {t:Nat} (C:QE g t) (n:∀v u,t.testBit v=true->t.testBit u=true->¬KU g v u) (F:Nat):∀(d s a b:Nat),s+d=32->b<4294967296->(∀i,i<s->b.testBit i=false)->(∀i,b.testBit i=true->t.testBit i=true)->d<a->
  bJ (gK F r (t:Int)) a (b:Int)=some true:=by
 have J:=z.n24;have p:t<4294967296:=by have:=C.lt z;omega
 intro d
 induction d using Nat.strongRecOn with
 | _ d ih =>
  intro s a b P B o c O;obtain⟨a,rfl⟩:∃f,a=f+1:=⟨a - 1,by omega⟩
  show gK F r (t:Int) (b:Int) (bJ _ a)=_;unfold gK jP;by_cases G:b=0
  ·rw[if_neg (by omega)]
  obtain⟨k,l⟩:=Nq G;have w:=C k (c k l.bit);have K:s<=k:=by
   rcases Nat.lt_or_ge k s with q|q
   ·have:=l.bit;rw[o k q]at this;cases this
   ·exact q
  obtain⟨m,L,h,j⟩:=y.at' k w;rw[if_pos (by omega),bH (acw F B l),cA (by have:=y.len;omega),L,DK h p];have M:m &&& t=0:=by
   refine ago (λi _=> ?_) (Rb h);rw[Nat.testBit_and];cases H:m.testBit i with
   |false=>rfl
   |true=>
    cases I:t.testBit i with
    |false=>rfl
    |true=>exact absurd ((j i).1 H) (n k i (c k l.bit) I)
  rw[M,if_neg (by simp)];obtain⟨N,D,E,x⟩:=Rm B l;rw[D];have A:k<32:=by omega
  refine ih (32 - (k+1)) (by omega) (k+1) a N (by omega) E (λi n=> ?_) (λi n=> ?_) (by omega)
  ·rw[x];by_cases e:i=k
   ·simp[e]
   ·rw[l.low i (by omega)];rfl
  ·rw[x,Bool.and_eq_true]at n;exact c i n.1
theorem Ir {g:GR} (a:VG g) {r:aQ} (d:Oj g r) {t:Nat} (c:QE g t) (b:∀v u,t.testBit v=true->t.testBit u=true->¬KU g v u):gX 1000 r (t:Int)=some true:=
 RH a d c b 1000 32 0 1000 t (by omega) (by have:=c.lt a;omega) (λi b=>by omega) (λi h=>h) (by omega)
theorem Pb {g:GR} (M:VG g) {r:aQ} (T:Oj g r) {W:Nat} (U:QE g W) (F:Nat):∀(d s a b t:Nat),s+d=32->b<4294967296->t<4294967296->(∀i,i<s->b.testBit i=false)->(∀i,b.testBit i=true->W.testBit i=true)->(∀i,t.testBit i=true->W.testBit i=true)->(∀v u,t.testBit v=true->t.testBit u=true->¬KU g v u)->(W≠0->t≠0∨b=W)->d<a->
  ∃C:Nat,bJ (d_ F r) a ((b:Int),(t:Int))=some (C:Int)∧C<4294967296∧(∀i,C.testBit i=true->W.testBit i=true)∧(∀v u,C.testBit v=true->C.testBit u=true->¬KU g v u)∧(W≠0->C≠0):=by
 have aa:=M.n24;intro d
 induction d using Nat.strongRecOn with
 | _ d ih =>
  intro s a b t hs V c I w n j O hf;obtain⟨a,rfl⟩:∃f,a=f+1:=⟨a - 1,by omega⟩
  have P:bJ (d_ F r) (a+1) ((b:Int),(t:Int))=d_ F r ((b:Int),(t:Int)) (bJ (d_ F r) a):=rfl;rw[P];unfold d_ lR jF;dsimp only;by_cases S:b=0
  ·rw[if_neg (by omega)];refine⟨t,rfl,c,n,j,λX=> ?_⟩
   rcases O X with h|h
   ·exact h
   ·exact absurd (h.symm.trans S) X
  obtain⟨k,D⟩:=Nq S;have E:=w k D.bit;have G:=U k E;have ab:s<=k:=by
   rcases Nat.lt_or_ge k s with q|q
   ·have:=D.bit;rw[I k q]at this;cases this
   ·exact q
  obtain⟨m,hm,J,A⟩:=T.at' k G;obtain⟨L,Y,Q,R⟩:=Rm V D;have p:k<32:=by omega
  have x:∀i,i<k+1->L.testBit i=false:=λi l=>by
   rw[R];by_cases e:i=k
   ·simp[e]
   ·rw[D.low i (by omega)];rfl
  have z:∀i,L.testBit i=true->W.testBit i=true:=λi l=>by
   rw[R,Bool.and_eq_true]at l;exact w i l.1
  rw[if_pos (by omega),bH (acw F V D),cA (by have:=T.len;omega),hm,DK J c,Y];by_cases K:m &&& t=0
  ·rw[K,if_pos (by rfl),cA (by omega),Re c p];have H:(t ||| 2^k).testBit k=true:=by rw[Nat.testBit_or,Nat.testBit_two_pow];simp
   have y:∀u,t.testBit u=true->¬KU g k u:=λu o N=>by
    have:=congrArg (λq=>q.testBit u) K;simp only[Nat.testBit_and,Nat.zero_testBit,(A u).2 N,o]at this;cases this
   refine ih (32 - (k+1)) (by omega) (k+1) a L (t ||| 2^k) (by omega) Q (aco c (Ij p)) x z (λi l=> ?_) (λv u B o=> ?_) (λ_=> .inl λe=>by rw[e]at H;simp at H) (by omega)
   ·rw[Nat.testBit_or,Nat.testBit_two_pow,Bool.or_eq_true,decide_eq_true_eq]at l;rcases l with l|rfl
    ·exact n i l
    ·exact E
   ·rw[Nat.testBit_or,Nat.testBit_two_pow,Bool.or_eq_true,decide_eq_true_eq]at B o;rcases B with B|rfl
    ·rcases o with o|rfl
     ·exact j v u B o
     ·exact λN=>y v B (M.back (U v (n v B)) N)
    ·rcases o with o|rfl
     ·exact y u o
     ·rintro⟨i,l,he⟩;exact((M.node k G).links i l).2.1 he
  ·rw[if_neg (by omega)];refine ih (32 - (k+1)) (by omega) (k+1) a L t (by omega) Q c x z n j (λ_=> .inl λe=> ?_) (by omega);rw[e]at K;exact K (Nat.and_zero m)
theorem Sf {g:GR} (D:VG g) {r:aQ} (M:Oj g r) {a:Int} (aa:1<=a) (ab:a<=4) {e w:Nat} (E:QE g e) (Q:w<4294967296):
  ∃t:Nat,eS 1000 r a (e:Int) (w:Int)=some (t:Int)∧(∀i,t.testBit i=true->e.testBit i=true)∧(e≠0->t≠0∧fR 1000 r a (e:Int) (t:Int)=some true∧(a<=2->∀v u,t.testBit v=true->t.testBit u=true->¬KU g v u)∧(a=4->t=e)):=by
 have N:=E.lt D;have f:e<4294967296:=by omega
 -- the wish
 obtain⟨W,V,m,l,o,X⟩:∃W:Nat,eS 1000 r a (e:Int) (w:Int)=jE 1000 r a (e:Int) (W:Int)∧W<4294967296∧(∀i,W.testBit i=true->e.testBit i=true)∧(e≠0->W≠0)∧(e=0->W=0):=by
  unfold eS;rw[DK Q f];by_cases G:w &&& e=0
  ·rw[G,if_pos (show((0:Nat):Int)=0 from rfl)];by_cases c:e=0
   ·refine⟨0,by rw[c];rfl,by omega,λi h=>by simp at h,λh=>absurd c h,λ_=>rfl⟩
   ·obtain⟨k,p⟩:=Nq c;have n:=Ho f p.bit;refine⟨2^k,by rw[aeq f p],Ij n,λi h=> ?_,λ_=>Nat.ne_of_gt (Nat.pow_pos (by omega)),λh=>absurd h c⟩
    rw[Nat.testBit_two_pow,decide_eq_true_eq]at h;rw[<-h];exact p.bit
  ·rw[if_neg (by omega)];refine⟨w &&& e,rfl,Rb Q,λi h=> ?_,λ_=>G,λh=>by rw[h];exact Nat.and_zero w⟩
   rw[Nat.testBit_and,Bool.and_eq_true]at h;exact h.2
 have s:QE g W:=λi F=>E i (l i F);have d:∀(t:Nat),t≠0->t<4294967296->(∀i,t.testBit i=true->e.testBit i=true)->∀b,(if a=1 then some (decide ((dR .u32 (t:Int) (wI .u32 ((t:Int) - 1)))=0))else if a=2 then(Option.bind (gX 1000 r (t:Int)) λr7=>some r7)else if a=4 then some (decide ((t:Int)=(e:Int)))else some true)=some b->fR 1000 r a (e:Int) (t:Int)=some b:=by
  intro t G J A b Y;unfold fR lQ;have hd:EY t e=0:=by
   refine Nat.eq_of_testBit_eq λi=> ?_;rw[LC J f,Nat.zero_testBit];cases H:t.testBit i with
   |false=>rfl
   |true=>rw[A i H];rfl
  rw[if_neg (by omega),OI,hd,if_neg (by simp)];exact Y
 rw[V];unfold jE;by_cases y:a=1
 ·rw[if_pos y];by_cases x:W=0
  ·refine⟨0,by rw[x];rfl,λi h=>by simp at h,λh=>absurd x (o h)⟩
  ·obtain⟨k,p⟩:=Nq x;have n:=Ho m p.bit;have U:UC (2^k) k:=⟨by rw[Nat.testBit_two_pow];simp,λj hj=>by rw[Nat.testBit_two_pow];exact decide_eq_false (by omega)⟩
   refine⟨2^k,by rw[aeq m p],λi h=> ?_,λc=>⟨Nat.ne_of_gt (Nat.pow_pos (by omega)),?_,λ_ v u P O z=> ?_,λh=>by omega⟩⟩
   ·rw[Nat.testBit_two_pow,decide_eq_true_eq]at h;rw[<-h];exact l k p.bit
   ·refine d _ (Nat.ne_of_gt (Nat.pow_pos (by omega))) (Ij n) (λi h=> ?_) true ?_
    ·rw[Nat.testBit_two_pow,decide_eq_true_eq]at h;rw[<-h];exact l k p.bit
    ·obtain⟨m',R,e2,S⟩:=Rm (Ij n) U;rw[if_pos y,R];have:m'=0:=Nat.eq_of_testBit_eq λi=>by
      rw[S,Nat.testBit_two_pow,Nat.zero_testBit];by_cases q:k=i
      ·simp[q]
      ·simp[q]
     rw[this];rfl
   ·rw[Nat.testBit_two_pow,decide_eq_true_eq]at P O;subst P;subst O;obtain⟨i,F,E⟩:=z;exact((D.node k (s k p.bit)).links i F).2.1 E
 rw[if_neg y];by_cases B:a=2
 ·rw[if_pos B];obtain⟨t,H,T,I,K,L⟩:=Pb D M s 1000 32 0 1000 W 0 (by omega) m (by omega) (λi F=>by omega) (λi h=>h) (λi h=>by simp at h) (λv u h=>by simp at h) (λ_=> .inr Z) (by omega);refine⟨t,H,λi h=>l i (I i h),λc=>⟨L (o c),?_,λ_=>K,λh=>by omega⟩⟩
  refine d t (L (o c)) T (λi h=>l i (I i h)) true ?_;rw[if_neg y,if_pos B,bH (Ir D M (λi h=>s i (I i h)) K)]
 rw[if_neg B];by_cases C:a=4
 ·rw[if_pos C];refine⟨e,rfl,λi h=>h,λc=>⟨c,d e c f (λi h=>h) true ?_,λh=>by omega,λ_=>rfl⟩⟩
  rw[if_neg y,if_neg B,if_pos C];simp
 ·rw[if_neg C];refine⟨W,rfl,l,λc=>⟨o c,d W (o c) m l true ?_,λh=>by omega,λh=>absurd h C⟩⟩
  rw[if_neg y,if_neg B,if_neg C]
end Go.Proofs.YtlkhndebimcbbaaGreatDoor
namespace Go.Proofs.YtlkhndebimcbbaaGreatDoor
open Go.Sx
def yU  (a:Int):Option (Int):=
 some (a)
def uC (c:aQ) (a:fP) (b:iZ->Option (Int)):Option (Int):=
 if a.2<(List.length c:Int)then(ck (0<=a.2∧a.2<(List.length c:Int)) (b ((max a.1 (at' c a.2)),(wI .i64 (a.2+(1:Int))))))else(yU  (a.1))
def Aq (U:Nat) (a:aQ):Option (Int):=
 if(List.length a:Int)<(1:Int)then(none)else(ck (0<=(0:Int)∧(0:Int)<(List.length a:Int)) (bJ (uC a) U ((at' a (0:Int)),(1:Int))))
theorem aap:aX Tryz.prog 123:=Tryz.call123
theorem NL (U:Nat) {f:aQ} (g:Value) (r:Int) (h:Aq U f=some r):
  aY Tryz.prog 123 #[g] [Sl bO g f] (λx:Unit=>vI (r)) (λx l=>l) (λ_ l=>l):=by
 refine aY.of Tryz.func123 Z Tryz.ntmps123 Z λc=>?_;refine aV<|aE Z<|aM<|aK<|aV<|aA Z<|kF (aF.fact 0 Z) Z<|cM Z<|aM ?_;refine eV h Z (λh=>?_) λh=>?_
 ·refine aR ?_;cases h
 refine cK<|aV<|aA Z<|cX h λj h=>aB (aZ Z Z (aF.fact 0 Z) Z Z j) Z<|aB (bQ Z (aF.fact 0 Z) Z Z Z cQ j) Z<|aE Z<|aM<|aK<|dO (λb=>yU  b=some r) (λb i=>[(3,vI (b))]) (λb i=>[]) ?_ ?_
 ·refine aV<|aE Z<|aM<|aS<|dU (uC f) (λa d=>[(0,g),(3,vI (a.1)),(4,vI (a.2))]) (λa d=>[]) ((at' f (0:Int)),(1:Int)) () h SF (a_.refl _) ?_;intro k a d h;refine aK<|aV<|aA Z<|aA Z<|kF (aF.fact 0 Z) Z<|cM Z<|aM ?_;refine eV h Z (λh=>?_) λh=>?_
  ·refine cK<|aK<|aS<|aR<|aA Z<|aA Z<|aA Z<|cX h λe h=>aB (aZ Z Z (aF.fact 0 Z) Z Z e) Z<|aB (bQ Z (aF.fact 0 Z) Z Z Z cQ e) Z<|aB (Ls Z Z) Z<|aE Z<|eI<|mA<|aR<|aA Z<|cH Z<|aE Z<|aM ?_;exact xT ((max a.1 (at' f a.2)),(wI .i64 (a.2+(1:Int)))) () h SF Z
  refine e_ ?_;exact iB (a.1) () h SF Z
 intro b i h;unfold yU at h;refine aV<|aA Z<|aE Z<|aM<|aW ?_;cases h;exact lA Z
def oA (U:Nat) (a:Ep) (b:cE) (d:Int):Option iZ:=
 Option.bind (Aq U b.1) λc=>(some (a.2.2.1,(wI .i64 ((wI .i64 (a.2.2.2.1+(wI .i64 (a.2.2.2.2.1*(List.length b.1:Int)))))+(wI .i64 (a.2.2.2.2.2*c))))))
theorem aao:aX Tryz.prog 122:=Tryz.call122
theorem GT (U:Nat) {a:Ep} {d:cE} {f:Int} (b:Value)  (e:Value)  (k:k_) (r:fP) (h:oA U a d f=some r):
  aY Tryz.prog 122 #[Value.agg #[vS (a.1),vI (a.2.1),vI (a.2.2.1),vI (a.2.2.2.1),vI (a.2.2.2.2.1),vI (a.2.2.2.2.2)],Value.agg #[b,e],vI (f)] [Sl bO b d.1,S2 bB e k d.2] (λx:Unit=>Value.tuple #[vI (r.1),vI (r.2)]) (λx l=>l) (λ_ l=>l):=by
 refine aY.of Tryz.func122 Z Tryz.ntmps122 Z λc=>?_;refine aV<|aH (aN.box (cs:=[vS (a.1),vI (a.2.1),vI (a.2.2.1),vI (a.2.2.2.1),vI (a.2.2.2.2.1),vI (a.2.2.2.2.2)]) Z Z) Z λm=>aH (aN.box (cs:=[b,e]) Z Z) Z λn=>aE Z<|aE Z<|aM<|aK ?_;refine JR.start [0,1,0,4,0,16,0,64,192,496,1020,0,2048,0,8192,24576,63488,131068,57347,524287] 19 mixedOrders (by decide +kernel) ?_;refine JR.open (by exact rfl) ?_;refine dB Z<|jR 1 Z<|dB Z<|jR 1 Z<|dB Z<|jR 1 Z<|dB Z<|jR 0 Z<|bK Z .nil (kA 0 Z) (fX Z (aF.fact 0 Z) Z) aO.z<|jS Z (AD Z Z)<|jS Z (xZ Z Z)<|dB Z<|jR 1 Z<|dB Z<|jR 0 Z<|fH h λg i h=>JR.loud Z Z Z (aN.callQ aap (NL U b g i) Z (oS [0] Z)) Z (λj=>(wF [([1],[]),([],[0]),([0],[]),([1],[]),([1],[]),([1],[])] Z)) λj=>jS Z (AD Z Z)<|jS Z (xZ Z Z)<|jS Z (nZ Z)<|bP 19 Z Z<|aE Z<|aM<|aW ?_;cases h;exact nG () Z Z (RV.tmp Z) (RV.tmp Z) .nil aG.nil
def rM (U:Nat) (a:Ep) (b:cE) (c:Int):Option iZ:=
 some ((0:Int),(1:Int))
theorem aaq:aX Tryz.prog 124:=Tryz.call124
theorem GU (U:Nat) {a:Ep} {b:cE} {f:Int} (d:Value)  (e:Value)  (g:k_) (r:fP) (h:rM U a b f=some r):
  aY Tryz.prog 124 #[Value.agg #[vS (a.1),vI (a.2.1),vI (a.2.2.1),vI (a.2.2.2.1),vI (a.2.2.2.2.1),vI (a.2.2.2.2.2)],Value.agg #[d,e],vI (f)] [Sl bO d b.1,S2 bB e g b.2] (λx:Unit=>Value.tuple #[vI (r.1),vI (r.2)]) (λx l=>l) (λ_ l=>l):=by
 refine aY.of Tryz.func124 Z Tryz.ntmps124 Z λc=>?_;unfold rM at h;refine aV<|aH (aN.box (cs:=[vS (a.1),vI (a.2.1),vI (a.2.2.1),vI (a.2.2.2.1),vI (a.2.2.2.2.1),vI (a.2.2.2.2.2)]) Z Z) Z λi=>aH (aN.box (cs:=[d,e]) Z Z) Z λj=>aE Z<|aE Z<|aM<|aV<|aE Z<|aE Z<|aM<|aW ?_;cases h;exact nG () Z Z (RV.tmp Z) (RV.tmp Z) .nil aG.nil
def oB (U:Nat) (c:Ep) (b:cE) (a:Int):Option iZ:=
 ck (0<=a∧a<(List.length b.2:Int)) (some ((-1:Int),(wI .i64 ((List.length (at' b.2 a):Int) - (1:Int)))))
theorem aar:aX Tryz.prog 125:=Tryz.call125
theorem GW (U:Nat) {a:Ep} {d:cE} {g:Int} (e:Value)  (f:Value)  (i:k_) (r:fP) (h:oB U a d g=some r):
  aY Tryz.prog 125 #[Value.agg #[vS (a.1),vI (a.2.1),vI (a.2.2.1),vI (a.2.2.2.1),vI (a.2.2.2.2.1),vI (a.2.2.2.2.2)],Value.agg #[e,f],vI (g)] [Sl bO e d.1,S2 bB f i d.2] (λx:Unit=>Value.tuple #[vI (r.1),vI (r.2)]) (λx l=>l) (λ_ l=>l):=by
 refine aY.of Tryz.func125 Z Tryz.ntmps125 Z λc=>?_;refine aV<|aH (aN.box (cs:=[vS (a.1),vI (a.2.1),vI (a.2.2.1),vI (a.2.2.2.1),vI (a.2.2.2.2.1),vI (a.2.2.2.2.2)]) Z Z) Z λj=>aH (aN.box (cs:=[e,f]) Z Z) Z λk=>aE Z<|aE Z<|aM<|aK ?_;refine JR.start [0,1,0,7,15,31,63,0,255] 8 mixedOrders (by decide +kernel) ?_;refine JR.open (by exact rfl) ?_;refine dB Z<|jR 0 Z<|bG Z<|cX h λb h=>bK Z .nil (kA 1 Z) (bX Z Z (aF.fact 0 Z) Z Z b) aO.z<|bK Z .nil (kA 1 Z) (bW Z (aF.fact 0 Z) Z Z b) aO.z<|bK Z .nil (kA 1 Z) (fX Z (aF.el (aF.fact 0 Z) b.1 b.2) Z) aO.z<|jS Z (oK Z Z)<|jS Z (nZ Z)<|bP 8 Z Z<|aE Z<|aM<|aW ?_;cases h;exact nG () Z Z (RV.tmp Z) (RV.tmp Z) .nil aG.nil
end Go.Proofs.YtlkhndebimcbbaaGreatDoor