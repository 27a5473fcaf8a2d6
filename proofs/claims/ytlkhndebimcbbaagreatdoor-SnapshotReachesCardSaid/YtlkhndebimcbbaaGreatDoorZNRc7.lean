/- Models and proofs. Conditions: none. -/
import Derived.Test.YtlkhndebimcbbaaGreatDoorZNRc6
import Derived.Test.YtlkhndebimcbbaaGreatDoorZNRc2
import Derived.Test.YtlkhndebimcbbaaGreatDoorZNRc3
import Derived.Test.YtlkhndebimcbbaaGreatDoorZNRc5
import Derived.Test.YtlkhndebimcbbaaGreatDoorZNRc4
set_option linter.unusedVariables false
set_option linter.unusedSimpArgs false
set_option maxHeartbeats 4000000
set_option maxRecDepth 20000
namespace Go.Gx
open Go Go.Sx
noncomputable section
section
variable {α R:Type}
def a0 (a:List α) (k:Option R):Option R:=List.casesOn (motive:=λ_=>Option R) a k (λ_ _=>none)
def a1 (b:List α) (k:α->Option R):Option R:=List.casesOn (motive:=λ_=>Option R) b none λa r=>a0 r (k a)
def a2 (b:List α) (k:α->α->Option R):Option R:=List.casesOn (motive:=λ_=>Option R) b none λa r=>a1 r (k a)
def a3 (b:List α) (k:α->α->α->Option R):Option R:=List.casesOn (motive:=λ_=>Option R) b none λa r=>a2 r (k a)
def a4 (b:List α) (k:α->α->α->α->Option R):Option R:=List.casesOn (motive:=λ_=>Option R) b none λa r=>a3 r (k a)
def a5 (us:List α) (k:α->α->α->α->α->Option R):Option R:=List.casesOn (motive:=λ_=>Option R) us none λa r=>a4 r (k a)
def a6 (b:List α) (k:α->α->α->α->α->α->Option R):Option R:=List.casesOn (motive:=λ_=>Option R) b none λa r=>a5 r (k a)
theorem abm {a:List α} {k:Option R} {r:R} (h:a0 a k=some r):a=[]∧k=some r:=by
 cases a with
 |nil=>exact⟨rfl,h⟩
 |cons _ _=>cases h
theorem Uw {a:List α} {k:α->Option R} {r:R} (h:a1 a k=some r):∃x,a=[x]∧k x=some r:=by
 cases a with
 |nil=>cases h
 |cons x a=>obtain⟨rfl,h⟩:=abm h;exact⟨x,rfl,h⟩
theorem NW {a:List α} {k:α->α->Option R} {r:R} (h:a2 a k=some r):∃x y,a=[x,y]∧k x y=some r:=by
 cases a with
 |nil=>cases h
 |cons x a=>obtain⟨y,rfl,h⟩:=Uw h;exact⟨x,y,rfl,h⟩
theorem abn {a:List α} {k:α->α->α->Option R} {r:R} (h:a3 a k=some r):∃x y z,a=[x,y,z]∧k x y z=some r:=by
 cases a with
 |nil=>cases h
 |cons x a=>obtain⟨y,z,rfl,h⟩:=NW h;exact⟨x,y,z,rfl,h⟩
theorem NX {a:List α} {k:α->α->α->α->Option R} {r:R} (h:a4 a k=some r):∃x y z u,a=[x,y,z,u]∧k x y z u=some r:=by
 cases a with
 |nil=>cases h
 |cons x a=>obtain⟨y,z,u,rfl,h⟩:=abn h;exact⟨x,y,z,u,rfl,h⟩
theorem abo {a:List α} {k:α->α->α->α->α->Option R} {r:R} (h:a5 a k=some r):∃x y z u v,a=[x,y,z,u,v]∧k x y z u v=some r:=by
 cases a with
 |nil=>cases h
 |cons x a=>obtain⟨y,z,u,v,rfl,h⟩:=NX h;exact⟨x,y,z,u,v,rfl,h⟩
theorem abp {a:List α} {k:α->α->α->α->α->α->Option R} {r:R} (h:a6 a k=some r):∃x y z u v w,a=[x,y,z,u,v,w]∧k x y z u v w=some r:=by
 cases a with
 |nil=>cases h
 |cons x a=>obtain⟨y,z,u,v,w,rfl,h⟩:=abo h;exact⟨x,y,z,u,v,w,rfl,h⟩
end
def dSc (k:IntKind) (v:GV):Option Int:=ob v.asI λp=>bif eqK p.1 k then some p.2 else none
def YG (H:GH) (v:GV):Option (List Int):=Oj H 1 (dI .u32) v
def ahV (H:GH) (v:GV):Option (Int×List Int×List Int×List Int×Bool×Bool):=ob v.asA λg=>a6 g λa b c d e f=>ob (dSc .i64 a) λn=>ob (MS H b) λx=>ob (MS H c) λy=>ob (MS H d) λz=>ob e.asB λp=>ob f.asB λq=>some (n,x,y,z,p,q)
def gI (n:Int):List GV:=[.int .i64 n]
def gP (p:Int×Int):List GV:=[.int .i64 p.1,.int .i64 p.2]
def fcI {R:Type} (l:List Int):(List Int->R)->R:=List.rec (motive:=λ_=>(List Int->R)->R) (λk=>k []) (λx _ a k=>fi x λx=>a λr=>k (x::r)) l
def fcP {R:Type} (l:List (Int×Int)):(List (Int×Int)->R)->R:=List.rec (motive:=λ_=>(List (Int×Int)->R)->R) (λk=>k []) (λx _ c k=>fi x.1 λa=>fi x.2 λb=>c λr=>k ((a,b)::r)) l
def fcR {R:Type} (l:List (List (Int×Int))):(List (List (Int×Int))->R)->R:=List.rec (motive:=λ_=>(List (List (Int×Int))->R)->R) (λk=>k []) (λx _ a k=>fcP x λx=>a λr=>k (x::r)) l
theorem YV {R:Type}:∀(l:List Int) (k:List Int->R),fcI l k=k l
 | [],k=>rfl
 |x::l,k=>by
  show fi x (λx=>fcI l λr=>k (x::r))=_;rw[MZ,YV l]
theorem YW {R:Type}:∀(l:List (Int×Int)) (k:List (Int×Int)->R),fcP l k=k l
 | [],k=>rfl
 |x::l,k=>by
  show fi x.1 (λa=>fi x.2 λb=>fcP l λr=>k ((a,b)::r))=_;rw[MZ,MZ,YW l]
theorem YX {R:Type}:∀(l:List (List (Int×Int))) (k:List (List (Int×Int))->R),fcR l k=k l
 | [],k=>rfl
 |x::l,k=>by
  show fcP x (λx=>fcR l λr=>k (x::r))=_;rw[YW,YX l]
def Vo (b:Bool) (H:GH):OR:=Bool.casesOn (motive:=λ_=>OR) b (some (.bool false,H)) (some (.bool true,H))
def TJ (r:List Int×List (List (Int×Int))) (H:GH):OR:=fcI r.1 λx=>fcR r.2 λy=>bif Nat.beq x.length 0 then none else bif Nat.beq y.length 0 then none else bif y.any λl=>Nat.beq l.length 0 then none else
 fc (x.flatMap gI) λl=>H.newK (.cells l) λh a=>fc (wC 2 gP y a).1 λd=>sn x.length λn=>sn y.length λm=>(wC 2 gP y a).2.newK (.cells d) λc b=>some (.agg [.sl h 0 n 1,.sl c 0 m 1],b)
end
section
variable {P:Program} {gs:Ai} {w0:fC gs} {w:World} {ρ:eG} {H H':GH} {g:GV}
theorem pS.one {x:GV} {vs:List Value} (h:pS ρ [x] vs):∃V,vs=[V]∧Rl ρ x V:=by
 obtain⟨v,vs,rfl,a,b⟩:=h.of_cons;rw[b.of_nil];exact⟨v,rfl,a⟩
theorem EI {k:IntKind} {v:GV} {V:Value} {n:Int} (a:Rl ρ v V) (h:dSc k v=some n):V = .int k n:=by
 obtain⟨p,c,h⟩:=aF.1 (show ob v.asI _=some n from h);obtain⟨b,h⟩:=bP.1 h;cases h;rw[oJ c]at a;rw[a.int_inv,Iw b]
theorem Yc {v:GV} {V:Value} {b:Bool} (a:Rl ρ v V) (h:v.asB=some b):V = .bool b:=by
 rw[Ck h]at a;exact a.bool_inv
theorem Qp (R:fW w0 ρ H w) {v:GV} {V:Value} {a:List Int} (b:Rl ρ v V) (h:YG H v=some a):(Sl (eQ.int .u32) V a).p w All:=by
 obtain⟨d,rfl,c⟩:=Do R (λ_ _=>trivial) (iN.int .u32) b h;rw[List.map_id];exact c
theorem ach (R:fW w0 ρ H w) {v:GV} {V:Value} {p:Int×List Int×List Int×List Int×Bool×Bool} (l:Rl ρ v V) (h:ahV H v=some p):
  ∃m o s,V = .agg #[.int .i64 p.1,m,o,s,.bool p.2.2.2.2.1,.bool p.2.2.2.2.2]∧(Sl (eQ.int .i64) m p.2.1).p w All∧(Sl (eQ.int .i64) o p.2.2.1).p w All∧(Sl (eQ.int .i64) s p.2.2.2.1).p w All:=by
 obtain⟨T,k,h⟩:=aF.1 (show ob v.asA _=some p from h);obtain⟨a,b,c,d,e,f,rfl,h⟩:=abp h;obtain⟨n,I,h⟩:=aF.1 h;obtain⟨x,L,h⟩:=aF.1 h;obtain⟨y,M,h⟩:=aF.1 h;obtain⟨z,N,h⟩:=aF.1 h;obtain⟨q,J,h⟩:=aF.1 h;obtain⟨r,K,h⟩:=aF.1 h;cases h;rw[KA k]at l;obtain⟨j,rfl,i,_⟩:=l.agg_inv;obtain⟨U,j,rfl,B,i⟩:=i.of_cons;obtain⟨O,j,rfl,C,i⟩:=i.of_cons;obtain⟨Q,j,rfl,D,i⟩:=i.of_cons;obtain⟨S,j,rfl,E,i⟩:=i.of_cons;obtain⟨W,j,rfl,F,i⟩:=i.of_cons;obtain⟨X,rfl,G⟩:=i.one;have t:=EI B I;have u:=Yc F J;have A:=Yc G K;subst t u A;exact⟨O,Q,S,rfl,Hs R C L,Hs R D M,Hs R E N⟩
theorem GG {b:Bool} (h:Vo b H=some (g,H')):g = .bool b∧H'=H:=by
 cases b<;>cases h<;>exact⟨rfl,rfl⟩
theorem QT {r:List Int×List (List (Int×Int))} (h:TJ r H=some (g,H')):r.1≠[]∧r.2≠[]∧(∀a∈r.2,a≠[])∧
  g = .agg [.sl H.n 0 r.1.length 1,.sl (wC 2 gP r.2 (H.new (.cells (r.1.flatMap gI)))).2.n 0 r.2.length 1]∧H'=(wC 2 gP r.2 (H.new (.cells (r.1.flatMap gI)))).2.new (.cells (wC 2 gP r.2 (H.new (.cells (r.1.flatMap gI)))).1):=by
 unfold TJ at h;rw[YV,YX]at h;obtain⟨b,h⟩:=lD.1 h;obtain⟨c,h⟩:=lD.1 h;obtain⟨d,h⟩:=lD.1 h;rw[UU,jP,UU,xI,xI,jP]at h;cases h;refine⟨λe=>(by rw[e]at b;cases b),λe=>(by rw[e]at c;cases c),λa f e=>?_,rfl,rfl⟩
 have:=List.any_eq_false.1 d a f;rw[e]at this;exact this Z
theorem aia (ρ:eG) (x:Int):pS ρ (gI x) [.int .i64 x]:= .cons (.int _ _) .nil
theorem aib (ρ:eG) (x:Int×Int):pS ρ (gP x) [.int .i64 x.1,.int .i64 x.2]:= .cons (.int _ _) (.cons (.int _ _) .nil)
def glb (b:Nat) (a:List Value) (T:Nat):Ai:=⟨[(b,.cells a.toArray T (0,0))],[]⟩
theorem Ze {b:Nat} {a:List Value} (w:World) (S:Nat->Prop) (h:∀h∈[Gb b a],h.p w S):∃T,IY (glb b a T) w λ_=>False:=by
 obtain⟨_,T,c⟩:=h _ (List.mem_singleton.2 Z);exact⟨T,λp d=>by obtain rfl:=List.mem_singleton.1 d;exact⟨c,id⟩⟩
theorem fW.glb {b:Nat} {a:List Value} {T:Nat} {c:fC (glb b a T)} {w:World} {ρ:eG} {H:GH} (R:fW c ρ H w):(Gb b a).p w All:=⟨trivial,T,(R.glo _ (List.mem_singleton.2 Z)).1⟩
theorem OD {gs:Nat->Ai} {f:Nat} {V:Value} {L:List bE} (q:∀w S,(∀h∈L,h.p w S)->∃T,IY (gs T) w λ_=>False) (r:aW P f) (y:∀ρ d,Rl ρ g d->d=V) (h:∀T (b:fC (gs T)),kP P b (λ_=>none) f [] b.w g H'):aY P f #[] L (λ_:Unit=>V) (λ_ l=>l) (λ_ l=>l):=by
 intro w0 o z;obtain⟨T,n⟩:=q w0 o z;rcases h T (.of w0 n)with⟨v,A,c,a,_⟩|⟨_,s⟩
 ·have x:=r #[] w0;rw[show([]:List Value).toArray = #[]from rfl]at a;rw[show(fC.of w0 n).w=w0 from rfl,x]at a;cases a
 refine s.mono ?_;rintro e A ⟨v,c,rfl,_,R,a⟩;exact⟨(),by rw[y _ _ a],R.ext,λ_ _=>False,⟨λi m u=>by simp at u,λi k h=>h.elim,λi j k h=>h.elim⟩,λf t=>by simp at t⟩
section
variable {tb:TB} {T:TypeId}
theorem Uz (h:Cy tb T=some [yX]) (H:GH):oK tb T H=some (.ptr H.n 0,H.new (.cells [yX])):=by
 unfold oK;rw[h];show H.newK (.cells [yX]) (λh H'=>some (GV.ptr h 0,H'))=_;rw[jP]
theorem VD {t:Ty} (h:tb T=some t) (e:t.size=1) (H:GH) (k:Nat) (c:GV) (d:GH.cells H k=some [c]):oA tb T (.ptr k 0) yX H=some (.un,H.set k (.cells [yX])):=by
 show ob (H.cells k) (λb=>ob (tb T) λt=>bif Nat.beq 1 t.size then bif Nat.beq t.size 0 then none else ob (Hv [yX] 0 b) λa=>H.setK k (.cells a) λH'=>some (GV.un,H')else none)=_;rw[d,h];show(bif Nat.beq 1 t.size then bif Nat.beq t.size 0 then none else ob (Hv [yX] 0 [c]) λa=>H.setK k (.cells a) λH'=>some (GV.un,H')else none)=_;rw[e];show H.setK k (.cells [yX]) (λH'=>some (GV.un,H'))=_;rw[zC]
theorem ZB {t:Ty} (h:tb T=some t) (b:xS t.desc=false) (H:GH) (k:Nat) (c:GH.cells H k=some [yX]):vN tb T (.ptr k 0) H=some yX:=by
 show ob (H.cells k) (λa=>ob (tb T) λt=>Ce t a 0)=_;rw[c,h];show Ce t [yX] 0=_;unfold Ce;rw[b];rfl
end
def Og (a:Func):List Oper:=match a.body with
 |some (.seq (.region _ ops _) _)=>ops.toList
 |_=>[]
def Yu (a:Func):Code:=match a.body with
 |some (.seq _ c)=>c
 |_=> .skip
def acd (a:Func):Nat:=match Og a with
 |o::_=>o.dst.getD 0
 | []=>0
def okN (r:RS):Bool:=match r with
 |some o=>match o.e with
  | .normal=>true
  |_=>false
 |none=>false
theorem ZP {r:RS} (h:okN r=true):∃a,r=some a∧a.e = .normal:=by
 unfold okN at h;cases r with
 |none=>cases h
 |some o=>
  refine⟨o,rfl,?_⟩
  cases b:o.e<;>simp only[b]at h<;>first|rfl|cases h
def okT (r:OR):Bool:=match r with
 |some (.bool true,_)=>true
 |_=>false
theorem ZQ {r:OR} (h:okT r=true):∃H',r=some (.bool true,H'):=by
 unfold okT at h;split at h
 ·exact⟨_,rfl⟩
 ·cases h
end
end Go.Gx
namespace Go.Proofs.YtlkhndebimcbbaaGreatDoor
open Go.Sx
def kE (U:Nat) (a:Int):Option (Int):=
 if a=(0:Int)then(some (32:Int))else(ck (0<=(27:Int)) (ck ((0<=(tF .u32 (wI .u32 ((eK .u32 a (wI .u32 (0 - a)))*(125613361:Int))) (27:Int))∧(tF .u32 (wI .u32 ((eK .u32 a (wI .u32 (0 - a)))*(125613361:Int))) (27:Int))<((32:Nat):Int))∧xO.length=32) (some (wI .i64 (at' xO (tF .u32 (wI .u32 ((eK .u32 a (wI .u32 (0 - a)))*(125613361:Int))) (27:Int)))))))
theorem UG:aW Tryz.prog 152:=Tryz.call152
theorem yT (U:Nat) {b:Int} (r:Int) (h:kE U b=some r):
  aY Tryz.prog 152 #[vU (b)] [Gb 0 (cellsOf Ig xO)] (λx:Unit=>vI (r)) (λx l=>l) (λ_ l=>l):=by
 refine aY.of Tryz.func152 Z Tryz.ntmps152 Z λc=>?_;refine aX<|aD Z<|aN<|aK<|aX<|aA Z<|cS Z<|aN ?_;refine fD h Z (λh=>?_) λh=>?_
 ·refine aX<|aD Z<|aN<|aV<|aJ ?_;cases h;exact lA Z
 refine cL<|aX<|aA Z<|aA Z<|aB (Uv Z) Z<|AT Z<|aB (AA Z Z) Z<|cT h λd h=>aB (MJ Z Z d) Z<|cT h λa h=>aB (PZ Z Z Z Z Z a.1) Z<|aB (Wk (e:=Ig) Z (aE.fact 0 Z) Z Z Z Z a) Z<|aB (SI Z Z Z) Z<|aD Z<|aN<|aV ?_;cases h;exact lA Z
def kB  (a:Unit):Option Bool:=
 some (true)
def gY (U:Nat) (d:aR) (e:Int) (a:Int) (c:(Int)->Option Bool):Option Bool:=
 if a≠(0:Int)then(Option.bind (kE U a) λb=>(ck (0<=b∧b<(d.length:Int)) (if(eK .u32 (at' d b) e)≠(0:Int)then(some (false))else(c (eK .u32 a (wI .u32 (a - (1:Int))))))))else(kB  (()))
def mU (U:Nat) (c:aR) (a:Int) (b:Unit):Option Bool:=
 bI (gY U c a) U (a)
def iH (U:Nat) (a:aR) (b:Int):Option Bool:=
 mU U a b (())
theorem abL:aW Tryz.prog 146:=Tryz.call146
theorem BG (U:Nat) {m:aR} {e:Int} (j:Value) (r:Bool) (h:iH U m e=some r):
  aY Tryz.prog 146 #[j,vU (e)] [Sl Ak j m,Gb 0 (cellsOf Ig xO)] (λx:Unit=>vB (r)) (λx l=>l) (λ_ l=>l):=by
 refine aY.of Tryz.func146 Z Tryz.ntmps146 Z λc=>?_;unfold iH at h;refine jL PU<|aX<|cH (Know.one ((aE.fact 0 Z))) λw=>?_;refine aH (aO.box (cs:=[j]) Z (by rw[eO w])) Z λC=>?_;refine aH (aO.box (cs:=[vU (e)]) Z Z) Z λD=>aH (aO.alloc (cs:=[vB (false)]) Z Z) Z λu=>aN<|aK<|Sw (A:=Unit) (B:=pG) (λk g=>⟨16,Lj g⟩) (λk=>kB  k=some r) (λk g=>[(4,vP u)]) (λk g=>[bV u [vB (false)] 4,NL g]) (λk g=>[Sl Ak j m,Gb 0 (cellsOf Ig xO)]) ?_ ?_
 ·refine aX<|dQ 1 Z<|Bp (A:=Unit) (B:=Nat) (vs:=[vU (e)]) (λb=>mU U m e b=some r) (λb a=>Value.func (.func 151) #[] #[vP a]) (λb a=>[bV a [vU (e)] 45,bV u [vB (false)] 4,bV D [vU (e)] 45,bV C [j] 89,NL ([]:pG)]) (λb a=>[Sl Ak j m,Gb 0 (cellsOf Ig xO)]) (sN.fn (show aW Tryz.prog 113 from Tryz.call113) Z) Tryz.func113 Z Tryz.ntmps113 Z Z ?_ ?_
  ·refine aX<|aH (aO.box (cs:=[vU (e)]) Z Z) Z λo=>aD Z<|aN<|aX<|aB (zG (cs:=[.tmp 1]) (vs:=[vP o]) Z) Z<|aD Z<|aN<|aV ?_;exact sL () (o) h (.inl Z) (GX.r1 Z (RV.tmp Z)) Z (a_.refl _) (aG.refl _ _)
  intro b a h;unfold mU at h;refine aN<|aT<|Ha (i:=4) (cs:=[vP a]) ([]:pG) Z (show aW Tryz.prog 151 from Tryz.call151) Z Tryz.func151 Z Tryz.ntmps151 Z λs f v p=>aT<|dX (gY U m e) (λd n=>[(0,yV s),(1,vP a)]) (λd n=>[Lp s v LoopState.ready none,bV a [vU (d)] 45,bV u [vB (false)] 4,bV D [vU (e)] 45,bV C [j] 89,NL (List.cons f ([]:pG))]) (e) () h SF (a_.refl _) ?_;intro E d n h;refine aK<|aX<|dQ 1 Z<|rB Z<|aN ?_;refine fD h Z (λh=>?_) λh=>?_
  ·refine cL<|aK<|aT<|aX<|aA Z<|dQ 1 Z<|eZ h λt y h=>aH (zBa UG (yT U  t y) Z (mT [1] Z)) Z λF=>Pv (us:=[vI (t)]) (i:=0) p Z Z Z Z Z Z<|aQ<|aD Z<|aN<|Uo (i:=0) Z<|aT<|aK ?_;refine JR.start [0,0,3,7,0,31,63] 5 mixedOrders (by decide +kernel) ?_;refine zBd (by exact rfl) ?_;refine iZ 4 Z<|bG Z<|cT h λq h=>bJ Z .nil (jS 0 Z) (aZ Z Z (aE.fact 0 Z) Z Z q) aM.z<|bJ Z .nil (jS 0 Z) (bR Z (aE.fact 0 Z) Z Z Z Im q) aM.z<|iZ 3 Z<|bO 5 Z Z<|AT Z<|rB Z<|aN ?_;refine fD h Z (λh=>?_) λh=>?_
   ·refine aX<|iC 2 Z Z Z Z Z Z<|aN<|aV<|bM<|XF (i:=0) Z<|aB (lU Z) Z<|aN<|Up Z<|aV<|bM<|aJ<|aJ<|bM<|abb (i:=0) (.inl Z) Z (GX.r0 Z)<|bM<|aJ<|s_ (i:=5) (Ds:=(List.cons f ([]:pG))) (.inl Z) Z ?_;cases h;exact fP () Z Z (PN 2 Z Z Z Z) .nil aG.nil
   refine dY<|Xz<|Kl (i:=0) Z<|aB (lU Z) Z<|aN<|JF Z<|dY<|mN<|aQ<|dQ 1 Z<|dQ 1 Z<|aB (oI Z Z) Z<|AT Z<|iC 1 Z Z Z Z Z Z<|aN ?_;exact xR (eK .u32 d (wI .u32 (d - (1:Int)))) () h SF Z
  refine pH<|d_<|d_<|u_<|XE (i:=0) (.inr Z) Z (GX.r0 Z)<|mN ?_;exact JG () (List.cons f ([]:pG)) Z h SF (a_.ix [2,5] Z Z) (aG.refl _ _)
 intro k g h;unfold kB at h;refine aX<|iC 0 Z Z Z Z Z Z<|aN<|aV<|s_ (i:=1) (Ds:=(g)) (.inl Z) Z ?_;cases h;exact fP () Z Z (PN 0 Z Z Z Z) .nil aG.nil
def mJ (U:Nat) (d:aR) (b:Int) (e:Int) (a:Int) (c:Bool):Option Bool:=
 if c=true then(some (false))else(if b=(1:Int)then(some (decide ((eK .u32 a (wI .u32 (a - (1:Int))))=(0:Int))))else(if b=(2:Int)then(Option.bind (iH U d a) λf=>(some (f)))else(if b=(4:Int)then(some (decide (a=e)))else(some (true)))))
def gH (U:Nat) (c:aR) (d:Int) (b:Int) (a:Int):Option Bool:=
 if a=(0:Int)then(mJ U c d b a (true))else(mJ U c d b a (decide ((vV .u32 a b)≠(0:Int))))
theorem UC:aW Tryz.prog 110:=Tryz.call110
theorem yR (U:Nat) {p0:aR} {p1:Int} {p2:Int} {p3:Int} (b:Value) (r:Bool) (h:gH U p0 p1 p2 p3=some r):
  aY Tryz.prog 110 #[b,vI (p1),vU (p2),vU (p3)] [Sl Ak b p0,Gb 0 (cellsOf Ig xO)] (λx:Unit=>vB (r)) (λx l=>l) (λ_ l=>l):=by
 refine aY.of Tryz.func110 Z Tryz.ntmps110 Z λc=>?_;refine aX<|aD Z<|aN<|aK<|aK<|dW (λa=>mJ U p0 p1 p2 p3 a=some r) (λa d=>[(0,b),(1,vI (p1)),(2,vU (p2)),(3,vU (p3)),(16,vB (a))]) (λa d=>[]) ?_ ?_
 ·refine aQ<|aA Z<|cS Z<|aA Z ?_;refine Eo h Z (λ_ h=>?_) λ_ h=>?_
  ·refine aI Z<|aI Z<|aI Z<|aI Z<|dO Z<|aN ?_;exact gJ (true) () h SF Z
  refine cP Z<|cP Z<|aP Z (Ky Z Z) Z<|aP Z (F_ Z Z) Z<|fH Z<|aN ?_;exact gJ (decide ((vV .u32 p3 p2)≠(0:Int))) () h SF Z
 intro a d h;refine Am h Z (λ_ h=>?_) λ_ h=>?_
 ·refine aX<|aD Z<|aN<|aV<|aJ ?_;cases h;exact lA Z
 refine cL<|aK<|aX<|aA Z<|aN<|aT<|aX<|cS Z<|aD Z<|aN ?_;refine fD h Z (λh=>?_) λh=>?_
 ·refine aX<|aA Z<|aA Z<|aB (oI Z Z) Z<|AT Z<|cS Z<|aD Z<|aN<|aV<|bM<|aJ ?_;cases h;exact lA Z
 refine aX<|cS Z<|aD Z<|aN ?_;refine fD h Z (λh=>?_) λh=>?_
 ·refine aX<|aA Z<|aA Z<|eZ h λe f h=>aH (zBa abL (BG U b e f) Z (mT [0,1] Z)) Z λg=>aD Z<|aN<|aV<|bM<|aJ ?_;cases h;exact lA Z
 refine aX<|cS Z<|aD Z<|aN ?_;refine fD h Z (λh=>?_) λh=>?_
 ·refine aX<|aA Z<|aA Z<|cS Z<|aD Z<|aN<|aV<|bM<|aJ ?_;cases h;exact lA Z
 refine dY<|mN<|aX<|aD Z<|aN<|aV ?_;cases h;exact lA Z
def mK  (a:Int):Option (Int):=
 some (a)
def jU (a:gE) (b:jO->Option (Int)) (c:Int):Option (Int):=
 b ((eK .u32 a.1 (wI .u32 (a.1 - (1:Int)))),c)
def eX (U:Nat) (d:aR) (a:gE) (c:jO->Option (Int)):Option (Int):=
 if a.1≠(0:Int)then(Option.bind (kE U a.1) λb=>(ck (0<=b∧b<(d.length:Int)) (if(eK .u32 (at' d b) a.2)=(0:Int)then(ck (0<=b) (jU a c (Oa .u32 a.2 (Dk .u32 (1:Int) b))))else(jU a c (a.2)))))else(mK  (a.2))
def qG (U:Nat) (c:aR) (b:Int) (a:Unit):Option (Int):=
 bI (eX U c) U (b,(0:Int))
def jT (U:Nat) (c:aR) (b:Int) (d:Int) (a:Int):Option (Int):=
 if b=(1:Int)then(some (eK .u32 a (wI .u32 (0 - a))))else(if b=(2:Int)then(qG U c a (()))else(if b=(4:Int)then(some (d))else(some (a))))
def fG (U:Nat) (b:aR) (c:Int) (a:Int) (d:Int):Option (Int):=
 if(eK .u32 d a)=(0:Int)then(jT U b c a (eK .u32 a (wI .u32 (0 - a))))else(jT U b c a (eK .u32 d a))
theorem Yr:aW Tryz.prog 80:=Tryz.call80
theorem yS (U:Nat) {p0:aR} {p1:Int} {p2:Int} {p3:Int} (k:Value) (r:Int) (h:fG U p0 p1 p2 p3=some r):
  aY Tryz.prog 80 #[k,vI (p1),vU (p2),vU (p3)] [Sl Ak k p0,Gb 0 (cellsOf Ig xO)] (λx:Unit=>vU (r)) (λx l=>l) (λ_ l=>l):=by
 refine aY.of Tryz.func80 Z Tryz.ntmps80 Z λc=>?_;refine jL PU<|aX<|cH (Know.one ((aE.fact 0 Z))) λD=>?_;refine aH (aO.box (cs:=[k]) Z (by rw[eO D])) Z λq=>?_;refine aD Z<|aN<|aX<|aA Z<|aA Z<|AT Z<|aD Z<|aN<|aK<|Sw (A:=Int) (B:=Unit) (λg C=>⟨48,Lj ([]:pG)⟩) (λg=>jT U p0 p1 p2 g=some r) (λg C=>[(1,vI (p1)),(2,vU (p2)),(3,vU (g)),(4,vP q),(8,vU (0:Int))]) (λg C=>[bV q [k] 89,NL ([]:pG)]) (λg C=>[Sl Ak k p0,Gb 0 (cellsOf Ig xO)]) ?_ ?_
 ·refine aX<|aA Z<|cS Z<|aN ?_;refine fD h Z (λh=>?_) λh=>?_
  ·refine aQ<|aA Z<|aA Z<|aB (Uv Z) Z<|AT Z<|aD Z<|aN ?_;exact JG (eK .u32 p2 (wI .u32 (0 - p2))) () Z h SF (a_.refl _) (aG.refl _ _)
  refine cL ?_;exact JG (eK .u32 p3 p2) () Z h SF (a_.refl _) (aG.refl _ _)
 intro g C h;refine aK<|aX<|aA Z<|aN<|aT<|aX<|cS Z<|aD Z<|aN ?_;refine fD h Z (λh=>?_) λh=>?_
 ·refine aX<|aA Z<|aA Z<|aB (Uv Z) Z<|AT Z<|aD Z<|aN<|aV<|bM<|aJ<|s_ (i:=1) (Ds:=([]:pG)) (.inl Z) Z ?_;cases h;exact rX Z
 refine aX<|cS Z<|aD Z<|aN ?_;refine fD h Z (λh=>?_) λh=>?_
 ·refine aX<|aH (aO.alloc (cs:=[vU (0:Int)]) Z Z) Z λv=>iC 0 Z Z Z Z Z Z<|aN<|aK<|Sw (A:=Int) (B:=pG) (λd e=>⟨48,Lj e⟩) (λd=>mK  d=some r) (λd e=>[(9,vP v)]) (λd e=>[bV v [vU (d)] 45,NL e]) (λd e=>[Sl Ak k p0,Gb 0 (cellsOf Ig xO)]) ?_ ?_
  ·refine aX<|aA Z<|Bp (A:=Unit) (B:=Nat) (vs:=[vU (g)]) (λj=>qG U p0 g j=some r) (λj b=>Value.func (.func 151) #[] #[vP b]) (λj b=>[bV b [vU (g)] 45,bV v [vU (0:Int)] 45,bV q [k] 89,NL ([]:pG)]) (λj b=>[Sl Ak k p0,Gb 0 (cellsOf Ig xO)]) (sN.fn (show aW Tryz.prog 113 from Tryz.call113) Z) Tryz.func113 Z Tryz.ntmps113 Z Z ?_ ?_
   ·refine aX<|aH (aO.box (cs:=[vU (g)]) Z Z) Z λu=>aD Z<|aN<|aX<|aB (zG (cs:=[.tmp 1]) (vs:=[vP u]) Z) Z<|aD Z<|aN<|aV ?_;exact sL () (u) h (.inl Z) (GX.r1 Z (RV.tmp Z)) Z (a_.refl _) (aG.refl _ _)
   intro j b h;unfold qG at h;refine aN<|aT<|Ha (i:=3) (cs:=[vP b]) ([]:pG) Z (show aW Tryz.prog 151 from Tryz.call151) Z Tryz.func151 Z Tryz.ntmps151 Z λm n p w=>aT<|dX (eX U p0) (λa s=>[(0,yV m),(1,vP b)]) (λa s=>[Lp m p LoopState.ready none,bV b [vU (a.1)] 45,bV v [vU (a.2)] 45,bV q [k] 89,NL (List.cons n ([]:pG))]) (g,(0:Int)) () h SF (a_.refl _) ?_;intro F a s h;refine aK<|aX<|dQ 1 Z<|rB Z<|aN ?_;refine fD h Z (λh=>?_) λh=>?_
   ·refine cL<|aK<|dW (λf=>jU a (bI (eX U p0) F) f=some r) (λf t=>[(0,yV m),(1,vP b)]) (λf t=>[Lp m p LoopState.ready none,bV b [vU (a.1)] 45,bV v [vU (f)] 45,bV q [k] 89,NL (List.cons n ([]:pG))]) ?_ ?_
    ·refine aT<|aX<|aA Z<|dQ 1 Z<|eZ h λo G h=>aH (zBa UG (yT U  o G) Z (mT [1] Z)) Z λH=>Pv (us:=[vI (o)]) (i:=0) w Z Z Z Z Z Z<|aQ<|aD Z<|aN<|Uo (i:=0) Z<|aT<|aK ?_;refine JR.start [0,0,3,7,0,31,63] 5 mixedOrders (by decide +kernel) ?_;refine zBd (by exact rfl) ?_;refine iZ 3 Z<|bG Z<|cT h λy h=>bJ Z .nil (jS 0 Z) (aZ Z Z (aE.fact 0 Z) Z Z y) aM.z<|bJ Z .nil (jS 0 Z) (bR Z (aE.fact 0 Z) Z Z Z Im y) aM.z<|iZ 2 Z<|bO 5 Z Z<|AT Z<|cS Z<|aN ?_;refine fD h Z (λh=>?_) λh=>?_
     ·refine JR.start [0,0,2,7,15] 3 mixedOrders (by decide +kernel) ?_;refine zBd (by exact rfl) ?_;refine iZ 2 Z<|bG Z<|cT h λE h=>jD Z (Qc Z Z E)<|bO 3 Z Z<|aB (abl Z Z) Z<|iC 2 Z Z Z Z Z Z<|eM<|Xz<|Kl (i:=0) Z<|aB (lU Z) Z<|aN<|JF Z<|dY<|mN ?_;exact gJ (Oa .u32 a.2 (Dk .u32 (1:Int) o)) () h SF Z
     refine dY<|Xz<|Kl (i:=0) Z<|aB (lU Z) Z<|aN<|JF Z<|dY<|mN ?_;exact gJ (a.2) () h SF Z
    intro f t h;unfold jU at h;refine aQ<|dQ 1 Z<|dQ 1 Z<|aB (oI Z Z) Z<|AT Z<|iC 1 Z Z Z Z Z Z<|aN ?_;exact xR ((eK .u32 a.1 (wI .u32 (a.1 - (1:Int)))),f) () h SF Z
   refine pH<|d_<|d_<|u_<|XE (i:=0) (.inr Z) Z (GX.r0 Z)<|mN ?_;exact JG (a.2) (List.cons n ([]:pG)) Z h SF (a_.ix [2,4] Z Z) (aG.refl _ _)
  intro d e h;unfold mK at h;refine aX<|dQ 0 Z<|aD Z<|aN<|aV<|bM<|aJ<|s_ (i:=1) (Ds:=(e)) (.inl Z) Z ?_;cases h;exact rX Z
 refine aX<|cS Z<|aD Z<|aN ?_;refine fD h Z (λh=>?_) λh=>?_
 ·refine aX<|aA Z<|aD Z<|aN<|aV<|bM<|aJ<|s_ (i:=1) (Ds:=([]:pG)) (.inl Z) Z ?_;cases h;exact rX Z
 refine dY<|mN<|aX<|aA Z<|aD Z<|aN<|aV<|s_ (i:=1) (Ds:=([]:pG)) (.inl Z) Z ?_;cases h;exact rX Z
def tP (U:Nat) (a:cD):Option Bool:=
 Option.bind (dC U ((a.1,a.2))) λb=>(some (b))
theorem Yl:aW Tryz.prog 35:=Tryz.call35
theorem Ff (U:Nat) {d:cD} (a:Value)  (b:Value)  (e:kA) (r:Bool) (h:tP U d=some r):
  aY Tryz.prog 35 #[Value.agg #[a,b]] [Sl bN a d.1,S2 bA b e d.2] (λx:Unit=>vB (r)) (λx l=>l) (λ_ l=>l):=by
 refine aY.of Tryz.func35 Z Tryz.ntmps35 Z λc=>?_;refine aX<|aH (aO.box (cs:=[a,b]) Z Z) Z λi=>aD Z<|aN<|aX<|dN 0 Z<|eZ h λf g h=>aH (zBa Oe (sU U a b e f g) Z (mT [0,1] Z)) Z λj=>aD Z<|aN<|aV ?_;cases h;exact rX Z
def iU  (a:Bool):Option Bool:=
 some (a)
def jI (U:Nat) (a:cD) (c:bF):Option Bool:=
 Option.bind (tP U ((a.1,a.2))) λd=>(if d=true then(Option.bind (eH U ((a.1,a.2)) c ([(a.1.length:Int),(-1:Int),(1:Int),(1:Int),(15:Int),(wI .i64 ((15:Int)*(a.1.length:Int)))])) λb=>(iU  (b)))else(iU  (false)))
theorem aeF:aW Tryz.prog 31:=Tryz.call31
theorem Cs (U:Nat) {a:cD} {o:bF} (g:Value)  (i:Value)  (m:kA)  (j:Value)  (p:q_) (r:Bool) (h:jI U a o=some r):
  aY Tryz.prog 31 #[Value.agg #[g,i],j] [Sl bN g a.1,S2 bA i m a.2,S2 bN j p o] (λx:Unit=>vB (r)) (λx l=>l) (λ_ l=>l):=by
 refine aY.of Tryz.func31 Z Tryz.ntmps31 Z λc=>?_;refine aX<|aH (aO.box (cs:=[g,i]) Z Z) Z λv=>aD Z<|aN<|aK<|dW (λd=>iU  d=some r) (λd n=>[(4,vB (d))]) (λd n=>[]) ?_ ?_
 ·refine aQ<|dN 0 Z<|eZ h λq t h=>aH (zBa Yl (Ff U g i m q t) Z (mT [0,1] Z)) Z λw=>aA Z ?_;refine rD (by exact rfl) (by exact rfl) (λb=>?_) (λb=>?_)
  ·have h:=IA b h;refine aP Z (fJ 0 Z Z Z Z) Z<|cP Z<|aP Z (c_ Z Z Z Z Z) Z<|aP Z (eB 0 Z Z Z Z Z) Z<|aP Z (fX Z (aE.fact 0 Z) Z) Z<|aP Z (c_ Z Z Z Z Z) Z<|aP Z (eB 0 Z Z Z Z Z) Z<|aP Z (fX Z (aE.fact 0 Z) Z) Z<|aP Z (AA Z Z) Z<|mH Z (cA (e:=bZ) ([(a.1.length:Int),(-1:Int),(1:Int),(1:Int),(15:Int),(wI .i64 ((15:Int)*(a.1.length:Int)))]) [(0,vI (a.1.length:Int)),(1,vI (-1:Int)),(2,vI (1:Int)),(3,vI (1:Int)),(4,vI (15:Int)),(5,vI (wI .i64 ((15:Int)*(a.1.length:Int))))] Z Z Z Z (Y_ (vI (a.1.length:Int)) (vI (-1:Int)) (vI (1:Int)) (vI (1:Int)) (vI (15:Int)) (vI (wI .i64 ((15:Int)*(a.1.length:Int)))) Z Z Z Z Z Z) Z Z Z) Z λs=>eZ h λf k h=>mH Z (zBa SY (uY U g i m j p s f k) Z (aG.cons (aE.fact 0 Z) (aG.cons (aE.fact 1 Z) (aG.cons (aE.fact 2 Z) (aG.cons (bB (aE.res 0 Z) dK) .nil))))) Z λu=>dO Z<|aD Z<|aN ?_;exact cF (f) () h SF .nil (aG.refl _ _)
  have h:=Dw b h;refine aI Z<|aI Z<|aI Z<|aI Z<|aI Z<|aI Z<|aI Z<|aI Z<|aI Z<|aI Z<|aI Z<|fH Z<|aD Z<|aN ?_;exact cF (false) () h SF .nil (aG.refl _ _)
 intro d n h;unfold iU at h;refine aV ?_;cases h;exact lA Z
def GE (U:Nat) (a:cD):Option Bool:=
 Option.bind (dC U ((a.1,a.2))) λb=>(some (b))
theorem afb:aW Tryz.prog 83:=Tryz.call83
theorem Ub (U:Nat) {d:cD} (a:Value)  (b:Value)  (e:kA) (r:Bool) (h:GE U d=some r):
  aY Tryz.prog 83 #[Value.agg #[a,b]] [Sl bN a d.1,S2 bA b e d.2] (λx:Unit=>vB (r)) (λx l=>l) (λ_ l=>l):=by
 refine aY.of Tryz.func83 Z Tryz.ntmps83 Z λc=>?_;refine aX<|aH (aO.box (cs:=[a,b]) Z Z) Z λi=>aD Z<|aN<|aX<|dN 0 Z<|eZ h λf g h=>aH (zBa Oe (sU U a b e f g) Z (mT [0,1] Z)) Z λj=>aD Z<|aN<|aV ?_;cases h;exact rX Z
def k_  (a:Bool):Option Bool:=
 some (a)
def tQ (U:Nat) (a:cD) (c:bF):Option Bool:=
 Option.bind (GE U ((a.1,a.2))) λd=>(if d=true then(Option.bind (eH U ((a.1,a.2)) c ([(a.1.length:Int),(-1:Int),(1:Int),(1:Int)])) λb=>(k_  (b)))else(k_  (false)))
theorem aeP:aW Tryz.prog 55:=Tryz.call55
theorem Fg (U:Nat) {b:cD} {o:bF} (g:Value)  (i:Value)  (m:kA)  (j:Value)  (p:q_) (r:Bool) (h:tQ U b o=some r):
  aY Tryz.prog 55 #[Value.agg #[g,i],j] [Sl bN g b.1,S2 bA i m b.2,S2 bN j p o] (λx:Unit=>vB (r)) (λx l=>l) (λ_ l=>l):=by
 refine aY.of Tryz.func55 Z Tryz.ntmps55 Z λc=>?_;refine aX<|aH (aO.box (cs:=[g,i]) Z Z) Z λv=>aD Z<|aN<|aK<|dW (λd=>k_  d=some r) (λd n=>[(4,vB (d))]) (λd n=>[]) ?_ ?_
 ·refine aQ<|dN 0 Z<|eZ h λq t h=>aH (zBa afb (Ub U g i m q t) Z (mT [0,1] Z)) Z λw=>aA Z ?_;refine rD (by exact rfl) (by exact rfl) (λa=>?_) (λa=>?_)
  ·have h:=IA a h;refine aP Z (fJ 0 Z Z Z Z) Z<|cP Z<|aP Z (c_ Z Z Z Z Z) Z<|aP Z (eB 0 Z Z Z Z Z) Z<|aP Z (fX Z (aE.fact 0 Z) Z) Z<|mH Z (cA (e:=bZ) ([(b.1.length:Int),(-1:Int),(1:Int),(1:Int)]) [(0,vI (b.1.length:Int)),(1,vI (-1:Int)),(2,vI (1:Int)),(3,vI (1:Int))] Z Z Z Z (YZ (vI (b.1.length:Int)) (vI (-1:Int)) (vI (1:Int)) (vI (1:Int)) Z Z Z Z) Z Z Z) Z λs=>eZ h λf k h=>mH Z (zBa SY (uY U g i m j p s f k) Z (aG.cons (aE.fact 0 Z) (aG.cons (aE.fact 1 Z) (aG.cons (aE.fact 2 Z) (aG.cons (bB (aE.res 0 Z) dK) .nil))))) Z λu=>dO Z<|aD Z<|aN ?_;exact cF (f) () h SF .nil (aG.refl _ _)
  have h:=Dw a h;refine aI Z<|aI Z<|aI Z<|aI Z<|aI Z<|aI Z<|aI Z<|fH Z<|aD Z<|aN ?_;exact cF (false) () h SF .nil (aG.refl _ _)
 intro d n h;unfold k_ at h;refine aV ?_;cases h;exact lA Z
def lZ  (a:Bool):Option Bool:=
 some (a)
def p_ (U:Nat) (a:cD) (c:bF):Option Bool:=
 Option.bind (ID U ((a.1,a.2))) λd=>(if d=true then(Option.bind (eH U ((a.1,a.2)) c ([(a.1.length:Int),(-1:Int)])) λb=>(lZ  (b)))else(lZ  (false)))
theorem afc:aW Tryz.prog 84:=Tryz.call84
theorem FX (U:Nat) {b:cD} {o:bF} (g:Value)  (i:Value)  (m:kA)  (j:Value)  (p:q_) (r:Bool) (h:p_ U b o=some r):
  aY Tryz.prog 84 #[Value.agg #[g,i],j] [Sl bN g b.1,S2 bA i m b.2,S2 bN j p o] (λx:Unit=>vB (r)) (λx l=>l) (λ_ l=>l):=by
 refine aY.of Tryz.func84 Z Tryz.ntmps84 Z λc=>?_;refine aX<|aH (aO.box (cs:=[g,i]) Z Z) Z λv=>aD Z<|aN<|aK<|dW (λd=>lZ  d=some r) (λd n=>[(4,vB (d))]) (λd n=>[]) ?_ ?_
 ·refine aQ<|dN 0 Z<|eZ h λq t h=>aH (zBa abB (Xh U g i m q t) Z (mT [0,1] Z)) Z λw=>aA Z ?_;refine rD (by exact rfl) (by exact rfl) (λa=>?_) (λa=>?_)
  ·have h:=IA a h;refine aP Z (fJ 0 Z Z Z Z) Z<|cP Z<|aP Z (c_ Z Z Z Z Z) Z<|aP Z (eB 0 Z Z Z Z Z) Z<|aP Z (fX Z (aE.fact 0 Z) Z) Z<|mH Z (cA (e:=bZ) ([(b.1.length:Int),(-1:Int)]) [(0,vI (b.1.length:Int)),(1,vI (-1:Int))] Z Z Z Z (KW (vI (b.1.length:Int)) (vI (-1:Int)) Z Z) Z Z Z) Z λs=>eZ h λf k h=>mH Z (zBa SY (uY U g i m j p s f k) Z (aG.cons (aE.fact 0 Z) (aG.cons (aE.fact 1 Z) (aG.cons (aE.fact 2 Z) (aG.cons (bB (aE.res 0 Z) dK) .nil))))) Z λu=>dO Z<|aD Z<|aN ?_;exact cF (f) () h SF .nil (aG.refl _ _)
  have h:=Dw a h;refine aI Z<|aI Z<|aI Z<|aI Z<|aI Z<|aI Z<|aI Z<|fH Z<|aD Z<|aN ?_;exact cF (false) () h SF .nil (aG.refl _ _)
 intro d n h;unfold lZ at h;refine aV ?_;cases h;exact lA Z
def zV (U:Nat) (b:gE) (a:aR) (c:Int):Option Bool:=
 ck (0<=b.1∧b.1<(a.length:Int)) (ck (0<=c∧c<(a.length:Int)) (some (decide ((at' a b.1)=(wI .i64 ((at' a c) - (1:Int)))))))
theorem abC:aW Tryz.prog 116:=Tryz.call116
theorem Ms (U:Nat) {d:gE} {g:aR} {i:Int} (a:Nat)  (j:Value)  (b:Nat) (r:Bool) (h:zV U d g i=some r):
  aY Tryz.prog 116 #[Value.agg #[vI (d.1),vI (d.2)],vP a,vP b] [bV a [j] 22,Sl bN j g,bV b [vI (i)] 3] (λx:Unit=>vB (r)) (λx l=>l) (λ_ l=>l):=by
 refine aY.of Tryz.func116 Z Tryz.ntmps116 Z λc=>?_;refine aX<|aH (aO.box (cs:=[vI (d.1),vI (d.2)]) Z Z) Z λk=>aD Z<|aN<|aK ?_;refine JR.start [0,0,2,7,15,0,0,96,224,480,1023,2047] 10 mixedOrders (by decide +kernel) ?_;refine zBd (by exact rfl) ?_;refine bJ Z .nil (jS 0 Z) (dZ Z (aE.fact 0 Z) Z Z Z) aM.z<|dB Z<|iZ 0 Z<|cT h λe h=>bJ Z .nil (jS 1 Z) (aZ Z Z (aE.fact 0 Z) Z Z e) aM.z<|bJ Z .nil (jS 1 Z) (bR Z (aE.fact 0 Z) Z Z Z cR e) aM.z<|bJ Z .nil (jS 0 Z) (dZ Z (aE.fact 0 Z) Z Z Z) aM.z<|bJ Z .nil (jS 2 Z) (dZ Z (aE.fact 0 Z) Z Z Z) aM.z<|cT h λf h=>bJ Z .nil (jS 1 Z) (aZ Z Z (aE.fact 0 Z) Z Z f) aM.z<|bJ Z .nil (jS 1 Z) (bR Z (aE.fact 0 Z) Z Z Z cR f) aM.z<|jD Z (oI Z Z)<|bO 10 Z Z<|cS Z<|aD Z<|aN<|aV ?_;cases h;exact rX Z
def AO  (a:Unit):Option Bool:=
 some (true)
def wJ (c:aR) (d:aR) (a:Int) (b:(Int)->Option Bool):Option Bool:=
 if a<(c.length:Int)then(ck (0<=a∧a<(c.length:Int)) (ck (0<=a∧a<(d.length:Int)) (if(at' c a)≠(at' d a)then(some (false))else(b (wI .i64 (a+(1:Int)))))))else(AO  (()))
def yK (U:Nat) (a:aR) (b:aR):Option Bool:=
 if(a.length:Int)≠(b.length:Int)then(some (false))else(bI (wJ a b) U (0:Int))
theorem abD:aW Tryz.prog 117:=Tryz.call117
theorem LU (U:Nat) {f:aR} {g:aR} (i:Value)  (j:Value) (r:Bool) (h:yK U f g=some r):
  aY Tryz.prog 117 #[i,j] [Sl bN i f,Sl bN j g] (λx:Unit=>vB (r)) (λx l=>l) (λ_ l=>l):=by
 refine aY.of Tryz.func117 Z Tryz.ntmps117 Z λc=>?_;refine aX<|aD Z<|aN<|aK<|aX<|aA Z<|jN (aE.fact 0 Z) Z<|aA Z<|jN (aE.fact 1 Z) Z<|rB Z<|aN ?_;refine fD h Z (λh=>?_) λh=>?_
 ·refine aX<|aD Z<|aN<|aV<|aJ ?_;cases h;exact lA Z
 refine cL<|aK<|dW (λd=>AO  d=some r) (λd k=>[]) (λd k=>[]) ?_ ?_
 ·refine aX<|aA Z<|jN (aE.fact 0 Z) Z<|aA Z<|aN<|aT<|dX (wJ f g) (λe m=>[(0,i),(1,j),(12,vI (f.length:Int)),(13,vI (e))]) (λe m=>[]) (0:Int) () h SF (a_.refl _) ?_;intro n e m h;refine aX<|cM Z<|aN<|aK ?_;refine fD h Z (λh=>?_) λh=>?_
  ·refine cL<|aK<|aT<|aX<|aA Z<|aD Z<|aN<|aK ?_;refine JR.start [0,0,3,7,0,0,48,112,255] 8 mixedOrders (by decide +kernel) ?_;refine zBd (by exact rfl) ?_;refine bG Z<|bG Z<|cT h λa h=>bJ Z .nil (jS 0 Z) (aZ Z Z (aE.fact 0 Z) Z Z a) aM.z<|bJ Z .nil (jS 0 Z) (bR Z (aE.fact 0 Z) Z Z Z cR a) aM.z<|bG Z<|bG Z<|cT h λb h=>bJ Z .nil (jS 1 Z) (aZ Z Z (aE.fact 0 Z) Z Z b) aM.z<|bJ Z .nil (jS 1 Z) (bR Z (aE.fact 0 Z) Z Z Z cR b) aM.z<|bO 8 Z Z<|rB Z<|aN ?_;refine fD h Z (λh=>?_) λh=>?_
   ·refine aX<|aD Z<|aN<|aV<|bM<|aJ<|aJ<|bM<|aJ ?_;cases h;exact lA Z
   refine dY<|mN<|aQ<|cJ Z<|aA Z<|aN ?_;exact xR (wI .i64 (e+(1:Int))) () h SF Z
  refine e_ ?_;exact gJ () (()) h SF Z
 intro d k h;unfold AO at h;refine aX<|aD Z<|aN<|aV ?_;cases h;exact lA Z
def xT (U:Nat) (a:Int) (c:aR) (e:aR) (d:Int):Option Bool:=
 ck (0<=a∧a<(c.length:Int)) (Option.bind (yK U e ([(at' c a),d])) λb=>(some (b)))
def Dm (U:Nat) (b:Int) (c:aR) (d:aR) (a:Unit):Option Bool:=
 xT U b c d (-1:Int)
def uA (U:Nat) (d:cD) (b:Int) (e:aR) (g:aR) (a:Int) (c:(Int)->Option Bool):Option Bool:=
 if a<((at' d.2 b).length:Int)then(ck (0<=a∧a<((at' d.2 b).length:Int)) (Option.bind (zV U ((((at' (at' d.2 b) a).1),((at' (at' d.2 b) a).2))) e b) λf=>(if f=true then(xT U b e g (a))else(c (wI .i64 (a+(1:Int)))))))else(Dm U b e g (()))
def xF (U:Nat) (b:cD) (a:Int) (c:aR) (d:aR):Option Bool:=
 ck (0<=a∧a<(b.2.length:Int)) (bI (uA U b a c d) U (0:Int))
theorem afe:aW Tryz.prog 86:=Tryz.call86
theorem Ry (U:Nat) {f:cD} {b:Int} {j:aR} {o:aR} (p:Value)  (q:Value)  (F:kA)  (n:Value)  (v:Value) (r:Bool) (h:xF U f b j o=some r):
  aY Tryz.prog 86 #[Value.agg #[p,q],vI (b),n,v] [Sl bN p f.1,S2 bA q F f.2,Sl bN n j,Sl bN v o] (λx:Unit=>vB (r)) (λx l=>l) (λ_ l=>l):=by
 refine aY.of Tryz.func86 Z Tryz.ntmps86 Z λc=>?_;refine aX<|aH (aO.box (cs:=[p,q]) Z Z) Z λN=>aH (aO.box (cs:=[vI (b)]) Z Z) Z λk=>cH (Know.one ((aE.fact 2 Z))) λy=>?_;refine aH (aO.box (cs:=[n]) Z (by rw[eO y])) Z λm=>?_;refine aD Z<|aN<|aX<|dN 2 Z<|dQ 1 Z<|aB (zG (cs:=[.tmp 6,.tmp 5]) (vs:=[vP m,vP k]) Z) Z<|Bp (A:=Int) (B:=Unit) (vs:=[Value.agg #[p,q],vI (b),Value.func (.func 116) #[] #[vP m,vP k]]) (λi=>xT U b j o i=some r) (λi w=>vI (i)) (λi w=>[bV m [n] 22,bV k [vI (b)] 3]) (λi w=>[Sl bN p f.1,S2 bA q F f.2,Sl bN n j,Sl bN v o]) (sN.fn (show aW Tryz.prog 115 from Tryz.call115) Z) Tryz.func115 Z Tryz.ntmps115 Z Z ?_ ?_
 ·refine aX<|aH (aO.box (cs:=[p,q]) Z Z) Z λH=>aD Z<|aN<|aK<|dW (λg=>Dm U b j o g=some r) (λg s=>[]) (λg s=>[bV m [n] 22,bV k [vI (b)] 3]) ?_ ?_
  ·refine aX<|bX Z<|dQ 0 Z<|aA Z<|cT h λd h=>aB (cC Z Z (aE.fact 1 Z) Z Z d) Z<|aB (b_ Z (aE.fact 1 Z) Z Z d) Z<|aB (fX Z (zBb (aE.fact 1 Z) d.1 d.2) Z) Z<|aA Z<|aN<|aT<|dX (uA U f b j o) (λa t=>[(2,Value.func (.func 116) #[] #[vP m,vP k]),(13,(at' F b).1),(14,vI ((at' f.2 b).length:Int)),(15,vI (a))]) (λa t=>[bV m [n] 22,bV k [vI (b)] 3]) (0:Int) () h SF (a_.ix [1,2] Z Z) ?_;intro J a t h;refine aX<|cM Z<|aN<|aK ?_;refine fD h Z (λh=>?_) λh=>?_
   ·refine cL<|aK<|aT<|aX<|aA Z<|cT h λu h=>aB (aZ Z Z (zBb (aE.fact 1 Z) d.1 d.2) Z Z u) Z<|aB (iX (cs:=[vI ((at' (at' f.2 b) a).1),vI ((at' (at' f.2 b) a).2)]) Z (zBb (aE.fact 1 Z) d.1 d.2) bS Z Z Z Z u) Z<|aH (aO.alloc (cs:=VO) Z Z) Z λI=>aD Z<|bQ 0 (vs:=[vI ((at' (at' f.2 b) a).1),vI ((at' (at' f.2 b) a).2)]) Z Z Z Z Z Z<|aN<|aX<|aA Z<|dN 0 Z<|eZ h λC E h=>aH (wY (vs:=[Value.agg #[vI ((at' (at' f.2 b) a).1),vI ((at' (at' f.2 b) a).2)]]) (cs:=[vP m,vP k]) abC Z (Ms U m n k C E) Z (aG.cons (aE.res 1 Z) (aG.cons (aE.fact 2 Z) (aG.cons (aE.res 2 Z) .nil))) (λ_ _=>rfl)) Z λM=>aN ?_;refine Am h Z (λ_ h=>?_) λ_ h=>?_
    ·refine aX<|aA Z<|aD Z<|aN<|aV<|bM<|aJ<|aJ<|bM<|aJ ?_;exact sL (a) () h (.inl Z) (GX.r1 Z (RV.tmp Z)) Z (a_.ix [1,2] Z Z) (aG.refl _ _)
    refine dY<|mN<|aQ<|cJ Z<|aA Z<|aN ?_;exact lS (wI .i64 (a+(1:Int))) () h SF (a_.ix [1,2] Z Z) (aG.refl _ _)
   refine e_ ?_;exact gJ () (()) h SF Z
  intro g s h;unfold Dm at h;refine aX<|aD Z<|aN<|aV ?_;exact sL (-1:Int) () h (.inl Z) (GX.r1 Z (RV.tmp Z)) Z (a_.refl _) (aG.refl _ _)
 intro i w h;refine aD Z<|aN<|aX<|aA Z<|dQ 0 Z<|dQ 1 Z<|cT h λG h=>aB (aZ Z Z (aE.fact 2 Z) Z Z G) Z<|aB (bR Z (aE.fact 2 Z) Z Z Z cR G) Z<|aA Z<|aH (cA (e:=bZ) ([(at' j b),i]) [(0,vI (at' j b)),(1,vI (i))] Z Z Z Z (KW (vI (at' j b)) (vI (i)) Z Z) Z Z Z) Z λK=>eZ h λz D h=>aH (zBa abD (LU U v K z D) Z (aG.cons (aE.fact 3 Z) (aG.cons (bB (aE.res 0 Z) dK) .nil))) Z λL=>aD Z<|aN<|aV ?_;cases h;exact rX Z
def Dl  (a:Unit):Option Bool:=
 some (true)
def A_ (U:Nat) (e:cD) (c:bF) (f:aR) (a:Int) (b:(Int)->Option Bool):Option Bool:=
 if a<(c.length:Int)then(ck (0<=a∧a<(c.length:Int)) (Option.bind (xF U ((e.1,e.2)) a f (at' c a)) λd=>(if(!d)=true then(some (false))else(b (wI .i64 (a+(1:Int)))))))else(Dl  (()))
def xE (U:Nat) (a:cD) (b:bF):Option Bool:=
 Option.bind (p_ U ((a.1,a.2)) b) λc=>(if(!c)=true then(some (false))else(Option.bind (pC U ((a.1,a.2)) (0:Int)) λd=>(bI (A_ U a b d) U (0:Int))))
theorem aeQ:aW Tryz.prog 56:=Tryz.call56
theorem Rx (U:Nat) {j:cD} {k:bF} (d:Value)  (e:Value)  (n:kA)  (m:Value)  (t:q_) (r:Bool) (h:xE U j k=some r):
  aY Tryz.prog 56 #[Value.agg #[d,e],m] [Sl bN d j.1,S2 bA e n j.2,S2 bN m t k] (λx:Unit=>vB (r)) (λx l=>l) (λ_ l=>l):=by
 refine aY.of Tryz.func56 Z Tryz.ntmps56 Z λc=>?_;refine aX<|aH (aO.box (cs:=[d,e]) Z Z) Z λu=>aD Z<|aN<|aK<|aX<|dN 0 Z<|aA Z<|eZ h λw y h=>aH (zBa afc (FX U d e n m t w y) Z (mT [0,1,2] Z)) Z λB=>aB (lU Z) Z<|aN ?_;refine Am h Z (λ_ h=>?_) λ_ h=>?_
 ·refine aX<|aD Z<|aN<|aV<|aJ ?_;cases h;exact rX Z
 refine cL<|aX<|dN 0 Z<|eZ h λp z h=>aH (zBa afd (HX U d e n p z) Z (mT [0,1] Z)) Z λs=>aD Z<|aN<|aK<|dW (λi=>Dl  i=some r) (λi f=>[]) (λi f=>[]) ?_ ?_
 ·refine aX<|aA Z<|aB (gU Z (aE.fact 2 Z) Z) Z<|aA Z<|aN<|aT<|dX (A_ U j k p) (λa g=>[(2,vP u),(5,s),(14,m),(15,vI (k.length:Int)),(16,vI (a))]) (λa g=>[Ar bZ s p,bV u [d,e] 28]) (0:Int) () h SF (a_.refl _) ?_;intro v a g h;refine aX<|cM Z<|aN<|aK ?_;refine fD h Z (λh=>?_) λh=>?_
  ·refine cL<|aK<|aT<|aX<|aA Z<|cT h λb h=>aB (cC Z Z (aE.fact 2 Z) Z Z b) Z<|aB (b_ Z (aE.fact 2 Z) Z Z b) Z<|aD Z<|aD Z<|aN<|aX<|dN 1 Z<|aA Z<|aA Z<|aA Z<|eZ h λo q h=>aH (zBa afe (Ry U d e n s ((at' t a).1) o q) Z (aG.cons (aE.fact 0 Z) (aG.cons (aE.fact 1 Z) (aG.cons (bB (aE.res 0 Z) dK) (aG.cons (zBb (aE.fact 2 Z) b.1 b.2) .nil))))) Z λA=>aB (lU Z) Z<|aN ?_;refine Am h Z (λ_ h=>?_) λ_ h=>?_
   ·refine aX<|aD Z<|aN<|aV<|bM<|aJ<|aJ<|bM<|aJ ?_;cases h;exact rX Z
   refine dY<|mN<|aQ<|cJ Z<|aA Z<|aN ?_;exact xR (wI .i64 (a+(1:Int))) () h SF Z
  refine e_ ?_;exact cF () (()) h SF .nil (aG.refl _ _)
 intro i f h;unfold Dl at h;refine aX<|aD Z<|aN<|aV ?_;cases h;exact lA Z
def xU  (a:aR):Option aR:=
 some (a)
def tH (a:lL) (c:rZ->Option aR) (b:aR):Option aR:=
 c ((wI .i64 (a.1+(1:Int))),b)
def qK (e:cD) (b:bF) (c:Int) (a:lL) (d:rZ->Option aR):Option aR:=
 if a.1<(b.length:Int)then(ck (0<=a.1∧a.1<(b.length:Int)) (ck (0<=a.1∧a.1<(a.2.length:Int)) (ck (0<=c∧c<((at' b a.1).length:Int)) (if(0:Int)<=(at' (at' b a.1) c)then(ck (0<=a.1∧a.1<(e.2.length:Int)) (ck (0<=c∧c<((at' b a.1).length:Int)) (ck (0<=(at' (at' b a.1) c)∧(at' (at' b a.1) c)<((at' e.2 a.1).length:Int)) (ck (0<=a.1∧a.1<((List.set a.2 (Int.toNat a.1) (-1:Int)).length:Int)) (tH a d (List.set (List.set a.2 (Int.toNat a.1) (-1:Int)) (Int.toNat a.1) ((at' (at' e.2 a.1) (at' (at' b a.1) c)).1)))))))else(tH a d (List.set a.2 (Int.toNat a.1) (-1:Int)))))))else(xU  (a.2))
def pM (U:Nat) (b:cD) (a:bF) (c:Int):Option aR:=
 ck (0<=(a.length:Int)∧(a.length:Int)<=1099511627) (bI (qK b a c) U ((0:Int),(List.replicate (Int.toNat (a.length:Int)) (0:Int))))
theorem Yo:aW Tryz.prog 58:=Tryz.call58
theorem Gj (U:Nat) {j:cD} {g:bF} {i:Int} (v:Value)  (w:Value)  (E:kA)  (A:Value)  (F:q_) (r:aR) (h:pM U j g i=some r):
  aY Tryz.prog 58 #[Value.agg #[v,w],A,vI (i)] [Sl bN v j.1,S2 bA w E j.2,S2 bN A F g] (λx:Value=>x) (λx l=>Ar bZ x r::l) (λ_ l=>l):=by
 refine aY.of Tryz.func58 Z Tryz.ntmps58 Z λc=>?_;refine aX<|aH (aO.box (cs:=[v,w]) Z Z) Z λy=>aD Z<|aN<|aX<|aA Z<|aB (gU Z (aE.fact 2 Z) Z) Z<|cT h λD h=>aH (mL (e:=bZ) (0:Int) Z Z Z Z D Z Z Z) Z λk=>aD Z<|aN<|aK<|dW (λm=>xU  m=some r) (λm C=>[(7,k)]) (λm C=>[Ar bZ k m]) ?_ ?_
 ·refine aX<|aA Z<|aB (gU Z (aE.fact 2 Z) Z) Z<|aA Z<|aN<|aT<|dX (qK j g i) (λa n=>[(2,vI (i)),(3,vP y),(7,k),(13,A),(14,vI (g.length:Int)),(15,vI (a.1))]) (λa n=>[Ar bZ k a.2,bV y [v,w] 28]) ((0:Int),(List.replicate (Int.toNat (g.length:Int)) (0:Int))) () h SF (a_.refl _) ?_;intro B a n h;refine aX<|cM Z<|aN<|aK ?_;refine fD h Z (λh=>?_) λh=>?_
  ·refine cL<|aK<|dW (λd=>tH a (bI (qK j g i) B) d=some r) (λd o=>[(2,vI (i)),(3,vP y),(7,k),(13,A),(14,vI (g.length:Int)),(15,vI (a.1))]) (λd o=>[Ar bZ k d,bV y [v,w] 28]) ?_ ?_
   ·refine aT<|aX<|aA Z<|cT h λb h=>aB (cC Z Z (aE.fact 2 Z) Z Z b) Z<|aB (b_ Z (aE.fact 2 Z) Z Z b) Z<|aD Z<|aD Z<|aN<|aX<|aA Z<|aA Z<|cT h λp h=>aB (aZ Z Z (bB (aE.res 0 Z) dK) Z Z p) Z<|vA 0 (-1:Int) p Z Z Z Z Z Z Z<|aN<|aX<|aA Z<|aA Z<|cT h λq h=>aB (aZ Z Z (zBb (aE.fact 2 Z) b.1 b.2) Z Z q) Z<|aB (bR Z (zBb (aE.fact 2 Z) b.1 b.2) Z Z Z cR q) Z<|aB (Bu Z Z) Z<|aN ?_;refine fD h Z (λh=>?_) λh=>?_
    ·refine JR.start [0,0,0,4,0,28,60,0,0,384,896,2044,4092,8188,16383,32767] 14 mixedOrders (by decide +kernel) ?_;refine zBd (by exact rfl) ?_;refine bG Z<|bG Z<|dB Z<|iZ 1 Z<|bG Z<|cT h λf h=>bJ Z .nil (jS 1 Z) (cC Z Z (aE.fact 0 Z) Z Z f) aM.z<|bJ Z .nil (jS 1 Z) (b_ Z (aE.fact 0 Z) Z Z f) aM.z<|bG Z<|bG Z<|cT h λs h=>bJ Z .nil (jS 2 Z) (aZ Z Z (zBb (aE.fact 0 Z) b.1 b.2) Z Z s) aM.z<|bJ Z .nil (jS 2 Z) (bR Z (zBb (aE.fact 0 Z) b.1 b.2) Z Z Z cR s) aM.z<|cT h λt h=>bJ Z .nil (jS 1 Z) (aZ Z Z (zBb (aE.fact 0 Z) f.1 f.2) Z Z t) aM.z<|jD Z (gF Z Z Z Z Z)<|bJ Z .nil (jS 1 Z) (jJ Z (zBb (aE.fact 0 Z) f.1 f.2) Z Z Z nF t) aM.z<|bO 14 Z Z<|cT h λu h=>aB (aZ Z Z (bB (aE.res 0 Z) dK) Z Z u) Z<|vA 0 ((at' (at' j.2 a.1) (at' (at' g a.1) i)).1) u Z Z Z Z Z Z Z<|eM<|mN ?_;exact gJ (List.set (List.set a.2 (Int.toNat a.1) (-1:Int)) (Int.toNat a.1) ((at' (at' j.2 a.1) (at' (at' g a.1) i)).1)) () h SF Z
    refine dY<|mN ?_;exact gJ (List.set a.2 (Int.toNat a.1) (-1:Int)) () h SF Z
   intro d o h;unfold tH at h;refine aQ<|cJ Z<|aA Z<|aN ?_;exact xR ((wI .i64 (a.1+(1:Int))),d) () h SF Z
  refine e_ ?_;exact cF (a.2) () h SF (a_.ix [0] Z Z) (aG.refl _ _)
 intro m C h;unfold xU at h;refine aX<|aA Z<|aD Z<|aN<|aV ?_;cases h;exact fP (k) Z Z (RV.tmp Z) (a_.refl _) aG.nil
def Cw  (a:Unit):Option Bool:=
 some (true)
def sI (b:Int) (a:(Int)->Option Bool) (c:Unit):Option Bool:=
 a (wI .i64 (b+(1:Int)))
def vQ (b:Int) (a:(Int)->Option Bool) (c:Bool):Option Bool:=
 if c=true then(some (false))else(sI b a (()))
def vO (b:bF) (d:aR) (a:Int) (c:(Int)->Option Bool) (e:Bool):Option Bool:=
 if e=true then(sI a c (()))else(ck (0<=a∧a<(b.length:Int)) (ck (0<=(2:Int)∧(2:Int)<((at' b a).length:Int)) (ck (0<=(at' d a)∧(at' d a)<(b.length:Int)) (ck (0<=(2:Int)∧(2:Int)<((at' b (at' d a)).length:Int)) (if(at' (at' b a) (2:Int))≠(at' (at' b (at' d a)) (2:Int))then(vQ a c (true))else(ck (0<=a∧a<(b.length:Int)) (ck (0<=(3:Int)∧(3:Int)<((at' b a).length:Int)) (ck (0<=(at' d a)∧(at' d a)<(b.length:Int)) (ck (0<=(3:Int)∧(3:Int)<((at' b (at' d a)).length:Int)) (vQ a c (decide ((at' (at' b a) (3:Int))≠(at' (at' b (at' d a)) (3:Int))))))))))))))
def iM (d:bF) (b:aR) (a:Int) (c:(Int)->Option Bool):Option Bool:=
 if a<(b.length:Int)then(ck (0<=a∧a<(b.length:Int)) (if(at' b a)<(0:Int)then(vO d b a c (true))else(ck (0<=(at' b a)∧(at' b a)<(d.length:Int)) (ck (0<=(2:Int)∧(2:Int)<((at' d (at' b a)).length:Int)) (vO d b a c (decide ((at' (at' d (at' b a)) (2:Int))=(1:Int))))))))else(Cw  (()))
def pP (U:Nat) (a:cD) (b:bF) (c:Bool):Option Bool:=
 if c=true then(some (false))else(Option.bind (pM U ((a.1,a.2)) b (1:Int)) λd=>(bI (iM b d) U (0:Int)))
def Gm (U:Nat) (b:cD) (d:bF) (a:bF):Option Bool:=
 Option.bind (xE U ((b.1,b.2)) a) λc=>(pP U b d ((!c)))
def Ae (U:Nat) (b:cD) (c:bF) (a:bF):Option Bool:=
 Gm U b c (a)
def vR (U:Nat) (d:cD) (c:bF) (a:Int×bF) (b:(Int×bF)->Option Bool):Option Bool:=
 if a.1<(c.length:Int)then(ck (0<=a.1∧a.1<(c.length:Int)) (ck (0<=(0:Int)∧(0:Int)<=(2:Int)∧(2:Int)<=(2:Int)∧(2:Int)<=((at' c a.1).length:Int)) (ck (0<=a.1∧a.1<(a.2.length:Int)) (b ((wI .i64 (a.1+(1:Int))),(List.set a.2 (Int.toNat a.1) (List.drop (Int.toNat (0:Int)) (List.take (Int.toNat (2:Int)) (at' c a.1)))))))))else(Ae U d c (a.2))
def rJ (U:Nat) (b:cD) (a:bF):Option Bool:=
 Option.bind (tQ U ((b.1,b.2)) a) λc=>(if(!c)=true then(pP U b a (true))else(ck (0<=(a.length:Int)∧(a.length:Int)<=1099511627) (bI (vR U b a) U ((0:Int),(List.replicate (Int.toNat (a.length:Int)) ([]:aR))))))
theorem aeG:aW Tryz.prog 32:=Tryz.call32
theorem Pe (U:Nat) {D:cD} {d:bF} (E:Value)  (F:Value)  (O:kA)  (s:Value)  (P:q_) (r:Bool) (h:rJ U D d=some r):
  aY Tryz.prog 32 #[Value.agg #[E,F],s] [Sl bN E D.1,S2 bA F O D.2,S2 bN s P d] (λx:Unit=>vB (r)) (λx l=>l) (λ_ l=>l):=by
 refine aY.of Tryz.func32 Z Tryz.ntmps32 Z λc=>?_;refine aX<|aH (aO.box (cs:=[E,F]) Z Z) Z λR=>aD Z<|aN<|aK<|aK<|dW (λQ=>pP U D d Q=some r) (λQ b4=>[(1,s),(2,vP R),(17,vB (Q))]) (λQ b4=>[bV R [E,F] 28]) ?_ ?_
 ·refine JR.start [0,0,3,7,15,31,31,95,255,511,1023] 8 mixedOrders (by decide +kernel) ?_;refine zBd (by exact rfl) ?_;refine mA 0 Z<|bG Z<|eZ h λai aj h=>zBc Z Z Z (zBa aeP (Fg U E F O s P ai aj) Z (mT [0,1,2] Z)) Z (λal=>(uB [] Z)) λal=>jD Z (lU Z)<|jD Z (fY Z) ?_;refine JR.guard (by exact rfl) (by exact rfl) (by exact rfl) (λJ=>?_) (λJ=>?_)
  ·have h:=IA J h;refine bT Z Z Z Z<|bT Z Z Z Z<|bT Z Z Z Z<|bO 8 Z Z<|aI Z<|aI Z<|dO Z<|aN ?_;exact gJ (true) () h SF Z
  have h:=Dw J h;refine eD Z (a_.cons 0 Z .nil) .nil (fJ 0 Z Z Z Z) (hkI Z)<|eD Z .nil .nil (fY Z) (hkI Z)<|Pw (A:=bF) (B:=Jq) (vs:=[s]) (λp=>Gm U D d p=some r) (λp f=>f.1) (λp f=>[Ar dD.raw f.1 f.2,bV R [E,F] 28]) (λp f=>[XS bN f.2 p,Sl bN E D.1,S2 bA F O D.2,S2 bN s P d]) Z Z Z Z (sN.fn (show aW Tryz.prog 57 from Tryz.call57) Z) Tryz.func57 Z Tryz.ntmps57 Z Z (λ_ _=>(uB [([1],[])] Z)) ?_ ?_
  ·refine aX<|aD Z<|aN<|aX<|aA Z<|aB (gU Z (aE.fact 2 Z) Z) Z<|cT h λah h=>Un bN (Int.toNat (d.length:Int))<|aH (mL (e:=dD.raw) (lB) Z Z Z Z ah Z Z Z) Z λK=>aD Z<|aN<|aK<|Bq (B:=fO) (λq=>Ae U D d q=some r) (λq t=>[(3,K)]) (λq t=>[Ar dD.raw K t,bV R [E,F] 28]) (λq t=>[XS bN t q,Sl bN E D.1,S2 bA F O D.2,S2 bN s P d]) ?_ ?_
   ·refine aX<|aA Z<|aB (gU Z (aE.fact 3 Z) Z) Z<|aA Z<|aN<|aT<|Fq (B:=fO) (vR U D d) (λb g=>[(3,K),(9,s),(10,vI (d.length:Int)),(11,vI (b.1))]) (λb g=>[Ar dD.raw K g,bV R [E,F] 28]) (λb g=>[XS bN g b.2,Sl bN E D.1,S2 bA F O D.2,S2 bN s P d]) ((0:Int),(List.replicate (Int.toNat (d.length:Int)) ([]:aR))) (List.replicate (Int.toNat (d.length:Int)) (lB)) h SF (a_.refl _) (aG.refl _ _) ?_;intro am b g h;refine aX<|cM Z<|aN<|aK ?_;refine fD h Z (λh=>?_) λh=>?_
    ·refine cL<|aK<|aT<|aX<|aA Z<|cT h λm h=>aB (cC Z Z (aE.fact 3 Z) Z Z m) Z<|aB (b_ Z (aE.fact 3 Z) Z Z m) Z<|aD Z<|aD Z<|aN<|aQ<|aA Z<|aA Z<|aA Z<|cT h λM h=>aB (MK Z Z Z Z (zBb (aE.fact 3 Z) m.1 m.2) Z Z M) Z<|cT h λaf h=>aB (cC Z Z (Df (i:=0) (j:=0) Z Z) Z Z af) Z<|cH (Know.one ((De (zBb (aE.fact 3 Z) m.1 m.2) Z M))) λX=>MD 0 0 af Z Z Z Z X Z<|Ur (k:=Int.toNat b.1) 0 (vs:=g) Z (De (zBb (aE.fact 3 Z) m.1 m.2) Z M)<|eM<|mN<|aQ<|cJ Z<|aA Z<|aN ?_;exact xR ((wI .i64 (b.1+(1:Int))),(List.set b.2 (Int.toNat b.1) (List.drop (Int.toNat (0:Int)) (List.take (Int.toNat (2:Int)) (at' d b.1))))) (List.set g (Int.toNat b.1) (sl3 ((at' P b.1).1) (Int.toNat (0:Int)) (Int.toNat (2:Int)) (Int.toNat (2:Int)) 1)) h SF Z
    refine e_ ?_;exact gJ (b.2) (g) h SF Z
   intro q t h;unfold Ae at h;refine aX<|aA Z<|aD Z<|aN<|aV ?_;exact sL (q) (K,t) h (.inl Z) (GX.r1 Z (RV.tmp Z)) Z (a_.refl _) (aG.refl _ _)
  intro p f h;refine bO 8 Z Z<|eZ h λag ak h=>mH Z (zBa aeQ (Rx U E F O f.1 (List.zip f.2 p) ag ak) Z (aG.cons (aE.fact 1 Z) (aG.cons (aE.fact 2 Z) (aG.cons (Df (i:=0) (j:=0) Z Z) .nil)))) Z λan=>aP Z (lU Z) Z<|fH Z<|aN ?_;exact cF ((!ag)) () h SF (a_.ix [1] Z Z) (mT [1,2,3] Z)
 intro Q b4 h;refine Am h Z (λ_ h=>?_) λ_ h=>?_
 ·refine aX<|aD Z<|aN<|aV<|aJ ?_;cases h;exact rX Z
 refine cL<|aK<|dW (λa6=>Cw  a6=some r) (λa6 b7=>[]) (λa6 b7=>[]) ?_ ?_
 ·refine aX<|dN 0 Z<|aA Z<|eZ h λn w9 h=>aH (zBa Yo (Gj U E F O s P n w9) Z (mT [0,1,2] Z)) Z λo=>aB (fX Z (bB (aE.res 0 Z) dK) Z) Z<|aA Z<|aN<|aT<|dX (iM d n) (λa S=>[(1,s),(20,o),(21,vI (n.length:Int)),(22,vI (a))]) (λa S=>[Ar bZ o n]) (0:Int) () h SF (a_.ix [0] Z Z) ?_;intro N a S h;refine aX<|cM Z<|aN<|aK ?_;refine fD h Z (λh=>?_) λh=>?_
  ·refine cL<|aK<|dW (λL=>sI a (bI (iM d n) N) L=some r) (λL T=>[(1,s),(20,o),(21,vI (n.length:Int)),(22,vI (a))]) (λL T=>[Ar bZ o n]) ?_ ?_
   ·refine aT<|aX<|aA Z<|cT h λY h=>aB (aZ Z Z (bB (aE.res 0 Z) dK) Z Z Y) Z<|aB (bR Z (bB (aE.res 0 Z) dK) Z Z Z cR Y) Z<|aD Z<|aD Z<|aN<|aK<|aK<|dW (λG=>vO d n a (bI (iM d n) N) G=some r) (λG V=>[(1,s),(5,vI (a)),(6,vI (at' n a)),(20,o),(21,vI (n.length:Int)),(22,vI (a)),(37,vB (G))]) (λG V=>[Ar bZ o n]) ?_ ?_
    ·refine aQ<|aA Z<|cM Z<|aA Z ?_;refine Eo h Z (λ_ h=>?_) λ_ h=>?_
     ·refine aI Z<|aI Z<|aI Z<|aI Z<|aI Z<|aI Z<|aI Z<|dO Z<|aN ?_;exact gJ (true) () h SF Z
     refine cP Z<|cP Z<|cT h λC h=>aP Z (cC Z Z (aE.fact 2 Z) Z Z C) Z<|aP Z (b_ Z (aE.fact 2 Z) Z Z C) Z<|cT h λae h=>aP Z (aZ Z Z (zBb (aE.fact 2 Z) C.1 C.2) Z Z ae) Z<|aP Z (bR Z (zBb (aE.fact 2 Z) C.1 C.2) Z Z Z cR ae) Z<|aP Z (MH Z Z) Z<|fH Z<|aN ?_;exact gJ (decide ((at' (at' d (at' n a)) (2:Int))=(1:Int))) () h SF Z
    intro G V h;refine Am h Z (λ_ h=>?_) λ_ h=>?_
    ·refine pH<|d_<|u_<|AV ?_;exact gJ () (()) h SF Z
    refine cL<|aK<|dW (λH=>vQ a (bI (iM d n) N) H=some r) (λH W=>[(1,s),(20,o),(21,vI (n.length:Int)),(22,vI (a)),(65,vB (H))]) (λH W=>[Ar bZ o n]) ?_ ?_
    ·refine JR.start [0,0,3,7,15,31,0,0,192,448,960,1984,4095,8191,16383,16383,65535,131071,262143,524287,16383,16383,3162111,7356415,15745023,32522239,67108863,134217727] 26 mixedOrders (by decide +kernel) ?_;refine zBd (by exact rfl) ?_;refine bG Z<|bG Z<|cT h λu h=>bJ Z .nil (jS 2 Z) (cC Z Z (aE.fact 0 Z) Z Z u) aM.z<|bJ Z .nil (jS 2 Z) (b_ Z (aE.fact 0 Z) Z Z u) aM.z<|cT h λaa h=>bJ Z .nil (jS 2 Z) (aZ Z Z (zBb (aE.fact 0 Z) u.1 u.2) Z Z aa) aM.z<|bJ Z .nil (jS 2 Z) (bR Z (zBb (aE.fact 0 Z) u.1 u.2) Z Z Z cR aa) aM.z<|bG Z<|bG Z<|cT h λv h=>bJ Z .nil (jS 2 Z) (cC Z Z (aE.fact 0 Z) Z Z v) aM.z<|bJ Z .nil (jS 2 Z) (b_ Z (aE.fact 0 Z) Z Z v) aM.z<|cT h λab h=>bJ Z .nil (jS 2 Z) (aZ Z Z (zBb (aE.fact 0 Z) v.1 v.2) Z Z ab) aM.z<|bJ Z .nil (jS 2 Z) (bR Z (zBb (aE.fact 0 Z) v.1 v.2) Z Z Z cR ab) aM.z<|jD Z (F_ Z Z)<|bG Z ?_;refine Ft (by exact rfl) (by exact rfl) (by exact rfl) (λI=>?_) (λI=>?_)
     ·have h:=IA I h;refine bT Z Z Z Z<|bT Z Z Z Z<|bT Z Z Z Z<|bT Z Z Z Z<|bT Z Z Z Z<|bT Z Z Z Z<|bT Z Z Z Z<|bT Z Z Z Z<|bT Z Z Z Z<|bT Z Z Z Z<|bT Z Z Z Z<|bT Z Z Z Z<|bO 26 Z Z<|aI Z<|dO Z<|aN ?_;exact gJ (true) () h SF Z
     have h:=ifN I h;refine eD Z .nil .nil (fY Z) aM.z<|eD Z .nil .nil (fY Z) aM.z<|cT h λw h=>eD Z .nil (jS 2 Z) (cC Z Z (aE.fact 0 Z) Z Z w) aM.z<|eD Z .nil (jS 2 Z) (b_ Z (aE.fact 0 Z) Z Z w) aM.z<|cT h λac h=>eD Z .nil (jS 2 Z) (aZ Z Z (zBb (aE.fact 0 Z) w.1 w.2) Z Z ac) aM.z<|eD Z .nil (jS 2 Z) (bR Z (zBb (aE.fact 0 Z) w.1 w.2) Z Z Z cR ac) aM.z<|eD Z .nil .nil (fY Z) aM.z<|eD Z .nil .nil (fY Z) aM.z<|cT h λy h=>eD Z .nil (jS 2 Z) (cC Z Z (aE.fact 0 Z) Z Z y) aM.z<|eD Z .nil (jS 2 Z) (b_ Z (aE.fact 0 Z) Z Z y) aM.z<|cT h λad h=>eD Z .nil (jS 2 Z) (aZ Z Z (zBb (aE.fact 0 Z) y.1 y.2) Z Z ad) aM.z<|eD Z .nil (jS 2 Z) (bR Z (zBb (aE.fact 0 Z) y.1 y.2) Z Z Z cR ad) aM.z<|bO 26 Z Z<|aP Z (F_ Z Z) Z<|fH Z<|aN ?_;exact gJ (decide ((at' (at' d a) (3:Int))≠(at' (at' d (at' n a)) (3:Int)))) () h SF Z
    intro H W h;refine Am h Z (λ_ h=>?_) λ_ h=>?_
    ·refine aX<|aD Z<|aN<|aV<|bM<|aJ<|aJ<|bM<|aJ ?_;cases h;exact rX Z
    refine dY<|mN ?_;exact gJ () (()) h SF Z
   intro L T h;unfold sI at h;refine aQ<|cJ Z<|aA Z<|aN ?_;exact xR (wI .i64 (a+(1:Int))) () h SF Z
  refine e_ ?_;exact cF () (()) h SF .nil (aG.refl _ _)
 intro a6 b7 h;unfold Cw at h;refine aX<|aD Z<|aN<|aV ?_;cases h;exact lA Z
def uN  (a:aR):Option aR:=
 some (a)
def uO (b:lL) (a:rZ->Option aR) (c:aR):Option aR:=
 a ((wI .i64 (b.1+(1:Int))),c)
def gR (e:bF) (f:aR) (b:lL) (c:rZ->Option aR) (a:lL) (d:rZ->Option aR):Option aR:=
 if(0:Int)<=a.1 then(ck (0<=a.1∧a.1<(a.2.length:Int)) (ck (0<=b.1∧b.1<(e.length:Int)) (ck (0<=(4:Int)∧(4:Int)<((at' e b.1).length:Int)) (ck (0<=a.1∧a.1<(a.2.length:Int)) (ck (0<=a.1∧a.1<(f.length:Int)) (d ((at' f a.1),(List.set a.2 (Int.toNat a.1) (wI .i64 ((at' a.2 a.1)+(at' (at' e b.1) (4:Int))))))))))))else(uO b c (a.2))
def lJ (U:Nat) (c:bF) (d:aR) (a:lL) (b:rZ->Option aR):Option aR:=
 if a.1<(c.length:Int)then(bI (gR c d a b) U (a.1,a.2))else(uN  (a.2))
def rW (U:Nat) (b:cD) (a:bF):Option aR:=
 Option.bind (pM U ((b.1,b.2)) a (1:Int)) λc=>(ck (0<=(a.length:Int)∧(a.length:Int)<=1099511627) (bI (lJ U a c) U ((0:Int),(List.replicate (Int.toNat (a.length:Int)) (0:Int)))))
theorem aeH:aW Tryz.prog 34:=Tryz.call34
theorem JC (U:Nat) {B:cD} {g:bF} (y:Value)  (A:Value)  (D:kA)  (k:Value)  (E:q_) (r:aR) (h:rW U B g=some r):
  aY Tryz.prog 34 #[Value.agg #[y,A],k] [Sl bN y B.1,S2 bA A D B.2,S2 bN k E g] (λx:Value=>x) (λx l=>Ar bZ x r::l) (λ_ l=>l):=by
 refine aY.of Tryz.func34 Z Tryz.ntmps34 Z λc=>?_;refine aX<|aH (aO.box (cs:=[y,A]) Z Z) Z λI=>aD Z<|aN<|aX<|dN 0 Z<|aA Z<|eZ h λi H h=>aH (zBa Yo (Gj U y A D k E i H) Z (mT [0,1,2] Z)) Z λm=>aD Z<|aN<|aX<|aA Z<|aB (gU Z (aE.fact 2 Z) Z) Z<|cT h λF h=>aH (mL (e:=bZ) (0:Int) Z Z Z Z F Z Z Z) Z λj=>aD Z<|aN<|aK<|dW (λn=>uN  n=some r) (λn C=>[(6,j)]) (λn C=>[Ar bZ j n]) ?_ ?_
 ·refine aX<|aA Z<|aB (gU Z (aE.fact 2 Z) Z) Z<|aA Z<|aN<|aT<|dX (lJ U g i) (λa o=>[(1,k),(5,m),(6,j),(16,vI (g.length:Int)),(17,vI (a.1))]) (λa o=>[Ar bZ j a.2,Ar bZ m i]) ((0:Int),(List.replicate (Int.toNat (g.length:Int)) (0:Int))) () h SF (a_.ix [0,1] Z Z) ?_;intro w a o h;refine aX<|cM Z<|aN<|aK ?_;refine fD h Z (λh=>?_) λh=>?_
  ·refine cL<|aK<|dW (λd=>uO a (bI (lJ U g i) w) d=some r) (λd p=>[(1,k),(5,m),(6,j),(16,vI (g.length:Int)),(17,vI (a.1))]) (λd p=>[Ar bZ j d,Ar bZ m i]) ?_ ?_
   ·refine aT<|aX<|aA Z<|aD Z<|aN<|aX<|aA Z<|aD Z<|aN<|aT<|dX (gR g i a (bI (lJ U g i) w)) (λb q=>[(1,k),(5,m),(6,j),(7,vI (a.1)),(8,vI (b.1)),(16,vI (g.length:Int)),(17,vI (a.1))]) (λb q=>[Ar bZ j b.2,Ar bZ m i]) (a.1,a.2) () h SF (a_.refl _) ?_;intro G b q h;refine aK<|aX<|aA Z<|aB (Bu Z Z) Z<|aN ?_;refine fD h Z (λh=>?_) λh=>?_
    ·refine cL<|aK<|aT ?_;refine JR.start [0,0,3,7,0,0,48,112,240,496,1023,2047,4095] 10 mixedOrders (by decide +kernel) ?_;refine zBd (by exact rfl) ?_;refine bG Z<|bG Z<|cT h λs h=>bJ Z (a_.cons 0 Z .nil) .nil (aZ Z Z (bB (aE.res 0 Z) dK) Z Z s) aM.z<|bJ Z (a_.cons 0 Z .nil) .nil (bR Z (bB (aE.res 0 Z) dK) Z Z Z cR s) aM.z<|bG Z<|bG Z<|cT h λf h=>bJ Z .nil (jS 2 Z) (cC Z Z (aE.fact 0 Z) Z Z f) aM.z<|bJ Z .nil (jS 2 Z) (b_ Z (aE.fact 0 Z) Z Z f) aM.z<|cT h λt h=>bJ Z .nil (jS 2 Z) (aZ Z Z (zBb (aE.fact 0 Z) f.1 f.2) Z Z t) aM.z<|bJ Z .nil (jS 2 Z) (bR Z (zBb (aE.fact 0 Z) f.1 f.2) Z Z Z cR t) aM.z<|bO 10 Z Z<|cJ Z<|cT h λu h=>aB (aZ Z Z (bB (aE.res 0 Z) dK) Z Z u) Z<|vA 0 (wI .i64 ((at' b.2 b.1)+(at' (at' g a.1) (4:Int)))) u Z Z Z Z Z Z Z<|eM<|mN<|aQ<|aA Z<|aA Z<|cT h λv h=>aB (aZ Z Z (bB (aE.res 1 Z) dK) Z Z v) Z<|aB (bR Z (bB (aE.res 1 Z) dK) Z Z Z cR v) Z<|aD Z<|aN ?_;exact xR ((at' i b.1),(List.set b.2 (Int.toNat b.1) (wI .i64 ((at' b.2 b.1)+(at' (at' g a.1) (4:Int)))))) () h SF Z
    refine pH<|d_<|d_<|u_<|mN ?_;exact gJ (b.2) () h SF Z
   intro d p h;unfold uO at h;refine aQ<|cJ Z<|aA Z<|aN ?_;exact xR ((wI .i64 (a.1+(1:Int))),d) () h SF Z
  refine e_ ?_;exact cF (a.2) () h SF (a_.ix [0] Z Z) (aG.refl _ _)
 intro n C h;unfold uN at h;refine aX<|aA Z<|aD Z<|aN<|aV ?_;cases h;exact fP (j) Z Z (RV.tmp Z) (a_.refl _) aG.nil
def yQ  (a:Unit):Option Bool:=
 some (true)
def jC (c:bF) (d:aR) (a:Int) (b:(Int)->Option Bool):Option Bool:=
 if a<(d.length:Int)then(ck (0<=a∧a<(d.length:Int)) (ck (0<=a∧a<(c.length:Int)) (ck (0<=(5:Int)∧(5:Int)<((at' c a).length:Int)) (if(at' (at' c a) (5:Int))≠(at' d a)then(some (false))else(b (wI .i64 (a+(1:Int))))))))else(yQ  (()))
def pE (U:Nat) (a:cD) (b:bF) (c:Bool):Option Bool:=
 if c=true then(some (false))else(Option.bind (rW U ((a.1,a.2)) b) λd=>(bI (jC b d) U (0:Int)))
def Cg (U:Nat) (b:cD) (d:bF) (a:bF):Option Bool:=
 Option.bind (rJ U ((b.1,b.2)) a) λc=>(pE U b d ((!c)))
def sT (U:Nat) (b:cD) (c:bF) (a:bF):Option Bool:=
 Cg U b c (a)
def pF (U:Nat) (d:cD) (c:bF) (a:Int×bF) (b:(Int×bF)->Option Bool):Option Bool:=
 if a.1<(c.length:Int)then(ck (0<=a.1∧a.1<(c.length:Int)) (ck (0<=(0:Int)∧(0:Int)<=(4:Int)∧(4:Int)<=(4:Int)∧(4:Int)<=((at' c a.1).length:Int)) (ck (0<=a.1∧a.1<(a.2.length:Int)) (b ((wI .i64 (a.1+(1:Int))),(List.set a.2 (Int.toNat a.1) (List.drop (Int.toNat (0:Int)) (List.take (Int.toNat (4:Int)) (at' c a.1)))))))))else(sT U d c (a.2))
def eN (U:Nat) (b:cD) (a:bF):Option Bool:=
 Option.bind (jI U ((b.1,b.2)) a) λc=>(if(!c)=true then(pE U b a (true))else(ck (0<=(a.length:Int)∧(a.length:Int)<=1099511627) (bI (pF U b a) U ((0:Int),(List.replicate (Int.toNat (a.length:Int)) ([]:aR))))))
theorem Yh:aW Tryz.prog 15:=Tryz.call15
theorem C_ (U:Nat) {p0:cD} {p1:bF} (p:Value)  (q:Value)  (y:kA)  (u:Value)  (z:q_) (r:Bool) (h:eN U p0 p1=some r):
  aY Tryz.prog 15 #[Value.agg #[p,q],u] [Sl bN p p0.1,S2 bA q y p0.2,S2 bN u z p1] (λx:Unit=>vB (r)) (λx l=>l) (λ_ l=>l):=by
 refine aY.of Tryz.func15 Z Tryz.ntmps15 Z λc=>?_;refine aX<|aH (aO.box (cs:=[p,q]) Z Z) Z λD=>aD Z<|aN<|aK<|aK<|dW (λC=>pE U p0 p1 C=some r) (λC S=>[(1,u),(2,vP D),(17,vB (C))]) (λC S=>[bV D [p,q] 28]) ?_ ?_
 ·refine JR.start [0,0,3,7,15,31,31,95,255,511,1023] 8 mixedOrders (by decide +kernel) ?_;refine zBd (by exact rfl) ?_;refine mA 0 Z<|bG Z<|eZ h λO P h=>zBc Z Z Z (zBa aeF (Cs U p q y u z O P) Z (mT [0,1,2] Z)) Z (λR=>(uB [] Z)) λR=>jD Z (lU Z)<|jD Z (fY Z) ?_;refine JR.guard (by exact rfl) (by exact rfl) (by exact rfl) (λs=>?_) (λs=>?_)
  ·have h:=IA s h;refine bT Z Z Z Z<|bT Z Z Z Z<|bT Z Z Z Z<|bO 8 Z Z<|aI Z<|aI Z<|dO Z<|aN ?_;exact gJ (true) () h SF Z
  have h:=Dw s h;refine eD Z (a_.cons 0 Z .nil) .nil (fJ 0 Z Z Z Z) (hkI Z)<|eD Z .nil .nil (fY Z) (hkI Z)<|Pw (A:=bF) (B:=Jq) (vs:=[u]) (λg=>Cg U p0 p1 g=some r) (λg b=>b.1) (λg b=>[Ar dD.raw b.1 b.2,bV D [p,q] 28]) (λg b=>[XS bN b.2 g,Sl bN p p0.1,S2 bA q y p0.2,S2 bN u z p1]) Z Z Z Z (sN.fn (show aW Tryz.prog 33 from Tryz.call33) Z) Tryz.func33 Z Tryz.ntmps33 Z Z (λ_ _=>(uB [([1],[])] Z)) ?_ ?_
  ·refine aX<|aD Z<|aN<|aX<|aA Z<|aB (gU Z (aE.fact 2 Z) Z) Z<|cT h λN h=>Un bN (Int.toNat (p1.length:Int))<|aH (mL (e:=dD.raw) (lB) Z Z Z Z N Z Z Z) Z λt=>aD Z<|aN<|aK<|Bq (B:=fO) (λm=>sT U p0 p1 m=some r) (λm n=>[(3,t)]) (λm n=>[Ar dD.raw t n,bV D [p,q] 28]) (λm n=>[XS bN n m,Sl bN p p0.1,S2 bA q y p0.2,S2 bN u z p1]) ?_ ?_
   ·refine aX<|aA Z<|aB (gU Z (aE.fact 3 Z) Z) Z<|aA Z<|aN<|aT<|Fq (B:=fO) (pF U p0 p1) (λa d=>[(3,t),(9,u),(10,vI (p1.length:Int)),(11,vI (a.1))]) (λa d=>[Ar dD.raw t d,bV D [p,q] 28]) (λa d=>[XS bN d a.2,Sl bN p p0.1,S2 bA q y p0.2,S2 bN u z p1]) ((0:Int),(List.replicate (Int.toNat (p1.length:Int)) ([]:aR))) (List.replicate (Int.toNat (p1.length:Int)) (lB)) h SF (a_.refl _) (aG.refl _ _) ?_;intro W a d h;refine aX<|cM Z<|aN<|aK ?_;refine fD h Z (λh=>?_) λh=>?_
    ·refine cL<|aK<|aT<|aX<|aA Z<|cT h λf h=>aB (cC Z Z (aE.fact 3 Z) Z Z f) Z<|aB (b_ Z (aE.fact 3 Z) Z Z f) Z<|aD Z<|aD Z<|aN<|aQ<|aA Z<|aA Z<|aA Z<|cT h λw h=>aB (MK Z Z Z Z (zBb (aE.fact 3 Z) f.1 f.2) Z Z w) Z<|cT h λI h=>aB (cC Z Z (Df (i:=0) (j:=0) Z Z) Z Z I) Z<|cH (Know.one ((De (zBb (aE.fact 3 Z) f.1 f.2) Z w))) λF=>MD 0 0 I Z Z Z Z F Z<|Ur (k:=Int.toNat a.1) 0 (vs:=d) Z (De (zBb (aE.fact 3 Z) f.1 f.2) Z w)<|eM<|mN<|aQ<|cJ Z<|aA Z<|aN ?_;exact xR ((wI .i64 (a.1+(1:Int))),(List.set a.2 (Int.toNat a.1) (List.drop (Int.toNat (0:Int)) (List.take (Int.toNat (4:Int)) (at' p1 a.1))))) (List.set d (Int.toNat a.1) (sl3 ((at' z a.1).1) (Int.toNat (0:Int)) (Int.toNat (4:Int)) (Int.toNat (4:Int)) 1)) h SF Z
    refine e_ ?_;exact gJ (a.2) (d) h SF Z
   intro m n h;unfold sT at h;refine aX<|aA Z<|aD Z<|aN<|aV ?_;exact sL (m) (t,n) h (.inl Z) (GX.r1 Z (RV.tmp Z)) Z (a_.refl _) (aG.refl _ _)
  intro g b h;refine bO 8 Z Z<|eZ h λJ Q h=>mH Z (zBa aeG (Pe U p q y b.1 (List.zip b.2 g) J Q) Z (aG.cons (aE.fact 1 Z) (aG.cons (aE.fact 2 Z) (aG.cons (Df (i:=0) (j:=0) Z Z) .nil)))) Z λY=>aP Z (lU Z) Z<|fH Z<|aN ?_;exact cF ((!J)) () h SF (a_.ix [1] Z Z) (mT [1,2,3] Z)
 intro C S h;refine Am h Z (λ_ h=>?_) λ_ h=>?_
 ·refine aX<|aD Z<|aN<|aV<|aJ ?_;cases h;exact rX Z
 refine cL<|aK<|dW (λL=>yQ  L=some r) (λL T=>[]) (λL T=>[]) ?_ ?_
 ·refine aX<|dN 0 Z<|aA Z<|eZ h λM X h=>aH (zBa aeH (JC U p q y u z M X) Z (mT [0,1,2] Z)) Z λK=>aB (fX Z (bB (aE.res 0 Z) dK) Z) Z<|aA Z<|aN<|aT<|dX (jC p1 M) (λv E=>[(1,u),(20,K),(21,vI (M.length:Int)),(22,vI (v))]) (λv E=>[Ar bZ K M]) (0:Int) () h SF (a_.ix [0] Z Z) ?_;intro V v E h;refine aX<|cM Z<|aN<|aK ?_;refine fD h Z (λh=>?_) λh=>?_
  ·refine cL<|aK<|aT<|aX<|aA Z<|cT h λG h=>aB (aZ Z Z (bB (aE.res 0 Z) dK) Z Z G) Z<|aB (bR Z (bB (aE.res 0 Z) dK) Z Z Z cR G) Z<|aD Z<|aD Z<|aN<|aX<|aA Z<|aA Z<|cT h λo h=>aB (cC Z Z (aE.fact 2 Z) Z Z o) Z<|aB (b_ Z (aE.fact 2 Z) Z Z o) Z<|cT h λH h=>aB (aZ Z Z (zBb (aE.fact 2 Z) o.1 o.2) Z Z H) Z<|aB (bR Z (zBb (aE.fact 2 Z) o.1 o.2) Z Z Z cR H) Z<|aA Z<|rB Z<|aN ?_;refine fD h Z (λh=>?_) λh=>?_
   ·refine aX<|aD Z<|aN<|aV<|bM<|aJ<|aJ<|bM<|aJ ?_;cases h;exact rX Z
   refine dY<|mN<|aQ<|cJ Z<|aA Z<|aN ?_;exact xR (wI .i64 (v+(1:Int))) () h SF Z
  refine e_ ?_;exact cF () (()) h SF .nil (aG.refl _ _)
 intro L T h;unfold yQ at h;refine aX<|aD Z<|aN<|aV ?_;cases h;exact lA Z
end Go.Proofs.YtlkhndebimcbbaaGreatDoor
section
set_option maxRecDepth 100000
namespace Go.Gx
open Go Go.Sx Go.Proofs Go.Proofs.YtlkhndebimcbbaaGreatDoor
noncomputable section
def ain (a:List GV) (H:GH):OR:=a1 a λb=>ob (Te H b) λp0=>ob (gQ 1000 p0) λr=>Vo r H
def ail (a:List GV) (H:GH):OR:=a2 a λb c=>ob (ahV H b) λp0=>ob (dSc .i64 c) λp1=>ob (nO 1000 p0 p1) λr=>TJ r H
def adM (a:List GV) (H:GH):OR:=a4 a λb c d e=>ob (YG H b) λp0=>ob (dSc .i64 c) λp1=>ob (dSc .u32 d) λp2=>ob (dSc .u32 e) λp3=>ob (gH 1000 p0 p1 p2 p3) λr=>Vo r H
def aim (a:List GV) (H:GH):OR:=a4 a λb c d e=>ob (YG H b) λp0=>ob (dSc .i64 c) λp1=>ob (dSc .u32 d) λp2=>ob (dSc .u32 e) λp3=>ob (fG 1000 p0 p1 p2 p3) λr=>some (.int .u32 r,H)
def aik (a:List GV) (H:GH):OR:=a2 a λb c=>ob (Te H b) λp0=>ob (adI H c) λp1=>ob (eN 1000 p0 p1) λr=>Vo r H
def Zd (f:Nat) (a:List GV) (H:GH):Option (GV×GH):=bif Nat.beq f 87 then ain a H else bif Nat.beq f 22 then ail a H else bif Nat.beq f 110 then adM a H else bif Nat.beq f 80 then aim a H else bif Nat.beq f 15 then aik a H else none
abbrev gl:Nat->Ai:=glb 0 (cellsOf Ig xO)
def gp:GP:=⟨xJ,70,Zd,Zc 192⟩
section
variable {T:Nat} {w0:fC (gl T)} {w:World} {ρ:eG} {H H':GH} {g:GV} {us:List GV} {vs:List Value}
theorem acF (h:ain us H=some (g,H')) (R:fW w0 ρ H w) (m:pS ρ us vs):kP Tryz.prog w0 ρ 87 vs w g H':=by
 obtain⟨p,rfl,h⟩:=Uw h;obtain⟨j,c,h⟩:=aF.1 h;obtain⟨r,l,h⟩:=aF.1 h;obtain⟨o,rfl,d⟩:=m.one;obtain⟨e,i,n,rfl,a,b⟩:=MR R d c;obtain⟨rfl,rfl⟩:=GG h;exact Dv Of (Ab 1000 (p0:=j) e i n r l) R (zAx.2 ⟨a,zAx.2 ⟨b,λf k=>absurd k List.not_mem_nil⟩⟩) λρ=> .bool _
theorem acD (h:ail us H=some (g,H')) (R:fW w0 ρ H w) (i:pS ρ us vs):kP Tryz.prog w0 ρ 22 vs w g H':=by
 obtain⟨z,A,rfl,h⟩:=NW h;obtain⟨o,d,h⟩:=aF.1 h;obtain⟨p,e,h⟩:=aF.1 h;obtain⟨r,v,h⟩:=aF.1 h;obtain⟨x,vs,rfl,j,i⟩:=i.of_cons;obtain⟨y,rfl,k⟩:=i.one;obtain⟨l,m,n,rfl,a,b,c⟩:=ach R j d;obtain rfl:=EI k e;obtain⟨q,s,t,rfl,rfl⟩:=QT h;exact Ts aia aib q s t Yi (BH 1000 (p0:=o) (p1:=p) l m n r v) R (zAx.2 ⟨a,zAx.2 ⟨b,zAx.2 ⟨c,λf u=>absurd u List.not_mem_nil⟩⟩⟩)
theorem Zp (h:adM us H=some (g,H')) (R:fW w0 ρ H w) (a:pS ρ us vs):kP Tryz.prog w0 ρ 110 vs w g H':=by
 obtain⟨z,A,B,C,rfl,h⟩:=NX h;obtain⟨m,b,h⟩:=aF.1 h;obtain⟨n,c,h⟩:=aF.1 h;obtain⟨o,d,h⟩:=aF.1 h;obtain⟨p,e,h⟩:=aF.1 h;obtain⟨r,u,h⟩:=aF.1 h;obtain⟨q,vs,rfl,i,a⟩:=a.of_cons;obtain⟨v,vs,rfl,j,a⟩:=a.of_cons;obtain⟨x,vs,rfl,k,a⟩:=a.of_cons;obtain⟨y,rfl,l⟩:=a.one;have s:=Qp R i b;obtain rfl:=EI j c;obtain rfl:=EI k d;obtain rfl:=EI l e;obtain⟨rfl,rfl⟩:=GG h;exact Dv UC (yR 1000 (p0:=m) (p1:=n) (p2:=o) (p3:=p) q r u) R (zAx.2 ⟨s,zAx.2 ⟨R.glb,λf t=>absurd t List.not_mem_nil⟩⟩) λρ=> .bool _
theorem acE (h:aim us H=some (g,H')) (R:fW w0 ρ H w) (a:pS ρ us vs):kP Tryz.prog w0 ρ 80 vs w g H':=by
 obtain⟨z,A,B,C,rfl,h⟩:=NX h;obtain⟨m,b,h⟩:=aF.1 h;obtain⟨n,c,h⟩:=aF.1 h;obtain⟨o,d,h⟩:=aF.1 h;obtain⟨p,e,h⟩:=aF.1 h;obtain⟨r,u,h⟩:=aF.1 h;obtain⟨q,vs,rfl,i,a⟩:=a.of_cons;obtain⟨v,vs,rfl,j,a⟩:=a.of_cons;obtain⟨x,vs,rfl,k,a⟩:=a.of_cons;obtain⟨y,rfl,l⟩:=a.one;have s:=Qp R i b;obtain rfl:=EI j c;obtain rfl:=EI k d;obtain rfl:=EI l e;cases h;exact Dv Yr (yS 1000 (p0:=m) (p1:=n) (p2:=o) (p3:=p) q r u) R (zAx.2 ⟨s,zAx.2 ⟨R.glb,λf t=>absurd t List.not_mem_nil⟩⟩) λρ=> .int _ _
theorem acC (h:aik us H=some (g,H')) (R:fW w0 ρ H w) (e:pS ρ us vs):kP Tryz.prog w0 ρ 15 vs w g H':=by
 obtain⟨x,y,rfl,h⟩:=NW h;obtain⟨m,c,h⟩:=aF.1 h;obtain⟨n,d,h⟩:=aF.1 h;obtain⟨r,s,h⟩:=aF.1 h;obtain⟨v,vs,rfl,i,e⟩:=e.of_cons;obtain⟨o,rfl,j⟩:=e.one;obtain⟨k,l,t,rfl,a,b⟩:=MR R i c;obtain⟨u,p⟩:=YE R j d;obtain⟨rfl,rfl⟩:=GG h;exact Dv Yh (C_ 1000 (p0:=m) (p1:=n) k l t o u r s) R (zAx.2 ⟨a,zAx.2 ⟨b,zAx.2 ⟨p,λf q=>absurd q List.not_mem_nil⟩⟩⟩) λρ=> .bool _
theorem Ou {f:Nat} (h:Zd f us H=some (g,H')) (R:fW w0 ρ H w) (a:pS ρ us vs):kP Tryz.prog w0 ρ f vs w g H':=by
 unfold Zd at h;cases b:Nat.beq f 87 with
 |true=>rw[b]at h;rw[zA4 b];exact acF h R a
 |false=>
 rw[b]at h;cases c:Nat.beq f 22 with
 |true=>rw[c]at h;rw[zA4 c];exact acD h R a
 |false=>
 rw[c]at h;cases d:Nat.beq f 110 with
 |true=>rw[d]at h;rw[zA4 d];exact Zp h R a
 |false=>
 rw[d]at h;cases e:Nat.beq f 80 with
 |true=>rw[e]at h;rw[zA4 e];exact acE h R a
 |false=>
 rw[e]at h;cases i:Nat.beq f 15 with
 |true=>rw[i]at h;rw[zA4 i];exact acC h R a
 |false=>
 rw[i]at h;cases h
end
theorem afz:ah_ Tryz.prog xJ=true:=by kernel_rfl
theorem Kd:fN Tryz.prog xJ:=⟨RO,afy afz⟩
theorem agd {a:Ai} (b:fC a):sX Tryz.prog b (MP xJ 96 Tryz.f96):=Yw Kd mixedOrders Tryz.func96 Tryz.call96 (by kernel_rfl)
theorem afs (a:Array Value) (w:World) (c:a.size=2):CallsDIn (FR none) 0 Tryz.prog 95 a .returning w λe f g=>∃v,e = .returned v∧f = .returning∧NN w g:=by
 obtain⟨d,h,b⟩:=ZP (r:=Gc xJ (MP xJ 96 Tryz.f96) (Og Tryz.f95) (evC xJ (MP xJ 96 Tryz.f96) (λ_ _ _ _=>none) (Yu Tryz.f95) 0 ⟨[],0,[]⟩ (HL [])) (Og Tryz.f95).tail ⟨[(acd Tryz.f95,.inil)],H0⟩) (by kernel_rfl);exact Ws (ch:=MP xJ 96 Tryz.f96) (lp:=λ_ _ _ _=>none) Kd mixedOrders agd Jf Tryz.func95 Z Z Z (by decide +kernel) (λi w=>by simp[execOp,resolve,invoke,builtin]) (by kernel_rfl) (by kernel_rfl) Z (by rw[c];decide +kernel) h b
theorem aic {i:Ai} {a:FuncId->List GV->GH->Option (GV×GH)} (o:∀(b:fC i) {f us H g H'},a f us H=some (g,H')->∀c w d,fW b c H w->pS c us d->kP Tryz.prog b c f d w g H') (b:fC i):VY Tryz.prog ⟨xJ,70,a,Zc 192⟩ IN.fns b:=by
 refine⟨Kd,mixedOrders,λh=> ?_,o b,λh c w d H R n=>acy Tryz.func192 Z Z Z Z h c w d H R n,λR l j k=> ?_⟩
 ·obtain⟨e,m,h⟩:=aF.1 (show ob (Vx _) _=some _ from h);cases h;obtain⟨p,q,r⟩:=aac m;exact⟨p,q,QU r⟩
 ·exact afk (tb:=xJ) (T1:=3) (T2:=67) (cc:=95) Kd Tryz.func70 Tryz.call70 Tryz.call95 Z Z Z (Uz (by kernel_rfl)) (Uz (by kernel_rfl)) (VD Z Z) (VD Z Z) (ZB Z Z) (ZB Z Z) afs R l j k
theorem Zf {T:Nat} (a:fC (gl T)):VY Tryz.prog gp IN.fns a:=aic (λa f d H g c h i w e R b=>Ou h R b) a
def gp0:GP:=⟨xJ,70,λ_ _ _=>none,Zc 192⟩
theorem alj (a:fC noG):VY Tryz.prog gp0 IN.fns a:=aic (λa f c H g b h=>by cases h) a
end
end Go.Gx
end
namespace Go.Gx
open Go Go.Sx Go.RowKit
mutual
def HR (k:Nat):GV->GV
 | .ptr h o=> .ptr (k+h) o
 | .sl h o l s=> .sl (k+h) o l s
 | .map h=> .map (k+h)
 | .fn f a b=> .fn f (Xp k a) (Xp k b)
 | .agg cs=> .agg (Xp k cs)
 | .tup vs=> .tup (Xp k vs)
 | .int a b=> .int a b
 | .bool b=> .bool b
 | .str a b=> .str a b
 | .pnil=> .pnil
 | .snil=> .snil
 | .fnil=> .fnil
 | .inil=> .inil
 | .un=> .un
 | .bad=> .bad
 | .opn h=> .opn (k+h)
def Xp (k:Nat):List GV->List GV
 | []=>[]
 |v::r=>HR k v::Xp k r
end
theorem OQ (k:Nat):∀(l:List GV) (i:Nat),(Xp k l)[i]? = (l[i]?).map (HR k)
 | [],i=>rfl
 |v::r,0=>rfl
 |v::r,i+1=>by simpa [Xp]using OQ k r i
theorem FI (k:Nat):∀(l:List GV),(Xp k l).length=l.length
 | []=>rfl
 |v::r=>by simp[Xp,FI k r]
def shO (k:Nat):GO->GO
 | .cells cs=> .cells (Xp k cs)
 | .mp es=> .mp (es.map λe=>(HR k e.1,HR k e.2))
def BE (k:Nat) (l:MF):MF:={l with o:=shO k l.o}
theorem Rl.shift {y e:eG} {k:Nat} (c:∀h l,y h=some l->e (k+h)=some (BE k l)) {g:GV} {v:Value} (h:Rl y g v):Rl e (HR k g) v:=by
 have d:∀{u:List GV} {j:fO},(∀(i:Nat) g v,u[i]? = some g->j[i]? = some v->Rl e (HR k g) v)->∀(i:Nat) g v,(Xp k u)[i]? = some g->j[i]? = some v->Rl e g v:=by
  intro u j D i g v x E;rw[OQ]at x;obtain⟨z,A,rfl⟩:=Option.map_eq_some_iff.1 x;exact D i z v A E
 induction h with
 |int a n=>simp only[HR];exact .int a n
 |bool b=>simp only[HR];exact .bool b
 |str s=>simp only[HR];exact .str s
 |ptr t h=>simp only[HR];exact .ptr (l:=BE k _) t (c _ _ h)
 |pnil=>simp only[HR];exact .pnil
 |sl h C B=>simp only[HR];exact .sl (l:=BE k _) (c _ _ h) C B
 |snil=>simp only[HR];exact .snil
 |map h=>simp only[HR];exact .map (l:=BE k _) (c _ _ h)
 |fn f m w o G q r=>simp only[HR];exact .fn f (by rw[FI];exact m) (d q) (by rw[FI];exact o) (d r)
 |fnil=>simp only[HR];exact .fnil
 |inil=>simp only[HR];exact .inil
 |agg m w o p=>simp only[HR];exact .agg (by rw[FI];exact m) (d p) o
 |tup m w p=>simp only[HR];exact .tup (by rw[FI];exact m) (d p)
 |un=>simp only[HR];exact .un
 |bad v=>simp only[HR];exact .bad v
 |opn v h F=>simp only[HR];exact .opn (l:=BE k _) v (c _ _ h) F
abbrev OL:=List (Nat×Nat×GO)
def Xo:OL->Nat->Option (Nat×GO)
 | [],_=>none
 |x::r,h=>if h=x.1 then some x.2 else Xo r h
theorem OB {b:OL} {h:Nat} {p:Nat×GO} (a:Xo b h=some p):(h,p)∈b:=by
 induction b with
 |nil=>cases a
 |cons x r c=>
  simp only[Xo]at a;split at a
  ·rename_i e;cases a;subst e;exact zA7
  ·exact zAe _ (c a)
noncomputable def Rb (k:Nat) (t:Tr (Nat×GO)):OL->Tr (Nat×GO)
 | []=>t
 |x::r=>(Rb k t r).set (some (k+x.2.1,shO k x.2.2)) (k+x.1)
noncomputable def adf:OL->Tr (Nat×GO)
 | []=> .lf
 |x::r=>(adf r).set (some x.2) x.1
theorem EP:∀(a:OL) (h:Nat),(adf a).get h=Xo a h
 | [],h=>rfl
 |x::r,h=>by
  show((adf r).set (some x.2) x.1).get h=_;rw[tA];simp only[Xo];split
  ·rfl
  ·exact EP r h
theorem LA (k:Nat) (t:Tr (Nat×GO)):∀(b:OL) (h:Nat),(Rb k t b).get h=if k<=h then(match Xo b (h - k)with|some p=>some (k+p.1,shO k p.2)|none=>t.get h)else t.get h
 | [],h=>by simp[Rb,Xo]
 | x :: r, h => by
  show((Rb k t r).set (some (k+x.2.1,shO k x.2.2)) (k+x.1)).get h=_;rw[tA,LA k t r h];by_cases e:h=k+x.1
  ·subst e;rw[if_pos Z,if_pos (by omega)];simp[Xo]
  ·rw[if_neg e];by_cases a:k<=h
   ·rw[if_pos a,if_pos a];simp only[Xo];rw[if_neg (show¬h - k=x.1 by omega)]
   ·rw[if_neg a,if_neg a]
noncomputable def JX (n:Nat) (a:OL):GH:=⟨n,adf a⟩
noncomputable def GH.load (H:GH) (n:Nat) (a:OL):GH:=⟨H.n+n,Rb H.n H.t a⟩
section
variable {gs:Ai} {w0:fC gs} {w w':World} {ρ ρ2:eG} {H:GH} {n:Nat} {os:OL}
theorem iB {H:GH} {h:Nat} {o:GO}:H.get h=some o↔∃v,H.t.get h=some (v,o):=by
 unfold GH.get;cases c:H.t.get h with
 |none=>simp[ob]
 |some p=>obtain⟨a,b⟩:=p;simp[ob]
theorem sZ {H:GH} {h v:Nat}:H.ver h=some v↔∃o,H.t.get h=some (v,o):=by
 unfold GH.ver;cases c:H.t.get h with
 |none=>simp[ob]
 |some p=>obtain⟨a,b⟩:=p;simp[ob]
theorem fW.sub {d:GH} (R:fW w0 ρ H w) (z:d.n=H.n) (m:∀h p,d.t.get h=some p->H.t.get h=some p):fW w0 ρ d w:=by
 have g:∀h o,d.get h=some o->H.get h=some o:=λh o i=>by
  obtain⟨v,j⟩:=iB.1 i;exact iB.2 ⟨v,m _ _ j⟩
 refine⟨R.ext,λh o i=>R.live h o (g h o i),λh q o y l u e f=>R.inj h q o y l u (g _ _ e) (g _ _ f),λh r=>R.fresh h (by omega),λh r=>R.dense h (by omega),λh v l j s=> ?_,R.env⟩
 obtain⟨o,k⟩:=sZ.1 j;obtain⟨x,a,b,c⟩:=R.vers h v l (sZ.2 ⟨o,m _ _ k⟩) s;refine⟨x,a,b,?_⟩
 have e:=iB.2 ⟨v,k⟩;have f:=g _ _ e;rw[c]at f;cases f;exact e
theorem yZ.shift {l:MF} {o:GO} {f:eG} {k:Nat} (d:∀h l,ρ2 h=some l->f (k+h)=some (BE k l)) (h:yZ ρ2 w l o):yZ f w (BE k l) (shO k o):=by
 cases o with
 |cells z=>
  obtain⟨j,T,r,s,t,y⟩:=h;refine⟨j,T,r,s,by rw[FI];exact t,λi g e=> ?_⟩
  rw[OQ]at e;obtain⟨p,q,rfl⟩:=Option.map_eq_some_iff.1 e;obtain⟨v,a,b,c⟩:=y i p q;exact⟨v,a,b.shift d,c⟩
 |mp A=>
  obtain⟨x,u,r,s,t⟩:=h;refine⟨x,u,r,by simpa [shO]using s,λi g e=> ?_⟩
  rw[List.getElem?_map]at e;obtain⟨p,q,rfl⟩:=Option.map_eq_some_iff.1 e;obtain⟨m,a,b,c⟩:=t i p q;exact⟨m,a,b.shift d,c.shift d⟩
theorem fW.join {Y:Ai} {hb:IY Y w λ_=>False} (R:fW w0 ρ H w) (M:fW (fC.of w hb) ρ2 (JX n os) w'):
  ∃s:eG,ρ.le s∧fW w0 s (H.load n os) w'∧∀g v,Rl ρ2 g v->Rl s (HR H.n g) v:=by
 let s:eG:=λh=>if h<H.n then ρ h else(ρ2 (h - H.n)).map (BE H.n);have G:ρ.le s:=λh l f=>by
  have ac:h<H.n:=by
   rcases zAq h H.n with q|q
   ·exact q
   ·rw[R.fresh h q]at f;cases f
  show(if h<H.n then ρ h else _)=_;rw[if_pos ac];exact f
 have K:∀h l,ρ2 h=some l->s (H.n+h)=some (BE H.n l):=λh l f=>by
  show(if H.n+h<H.n then _ else _)=_;rw[if_neg (by omega),show H.n+h - H.n=h by omega,f];rfl
 have k:∀h,h<H.n->s h=ρ h:=λh u=>by show(if h<H.n then ρ h else _)=_;rw[if_pos u]
 have d:∀h,H.n<=h->s h=(ρ2 (h - H.n)).map (BE H.n):=λh u=>by show(if h<H.n then ρ h else _)=_;rw[if_neg (by omega)]
 have J:∀h,H.n<=h->H.t.get h=none:=λh u=>by
  cases y:H.t.get h with
  |none=>rfl
  |some p=>exact absurd (R.lt (iB.2 ⟨p.1,y⟩)) (by omega)
 have X:∀h,h<H.n->(H.load n os).t.get h=H.t.get h:=λh u=>by
  show(Rb H.n H.t os).get h=_;rw[LA,if_neg (by omega)]
 have gh:∀h p,H.n<=h->(H.load n os).t.get h=some p->∃x,(JX n os).t.get (h - H.n)=some x∧p=(H.n+x.1,shO H.n x.2):=λh p u hp=>by
  have A:(Rb H.n H.t os).get h=some p:=hp;rw[LA,if_pos u,J h u]at A;cases hk:Xo os (h - H.n)with
  |none=>rw[hk]at A;cases A
  |some x=>rw[hk]at A;cases A;exact⟨x,(EP os _).trans hk,rfl⟩
 have W:NN w w':=M.ext.ext;have L:∀l:MF,(fC.of w hb).mine l.b->w.heap.size<=l.b:=λl h=>by
  rcases h with h|h
  ·exact h
  ·exact h.elim
 have r:∀h o,h<H.n->(H.load n os).get h=some o->∃l,ρ h=some l∧w0.mine l.b∧yZ ρ w l o∧H.get h=some o:=λh o u y=>by
  obtain⟨v,N⟩:=iB.1 y;rw[X h u]at N;have z:=iB.2 ⟨v,N⟩;obtain⟨l,a,b,c⟩:=R.live h o z;exact⟨l,a,b,c,z⟩
 have m:∀h o,H.n<=h->(H.load n os).get h=some o->∃l O,ρ2 (h - H.n)=some l∧w.heap.size<=l.b∧yZ ρ2 w' l O∧o=shO H.n O∧(JX n os).get (h - H.n)=some O:=λh o u y=>by
  obtain⟨v,N⟩:=iB.1 y;obtain⟨x,E,e⟩:=gh h _ u N;cases e;have z:(JX n os).get (h - H.n)=some x.2:=iB.2 ⟨x.1,E⟩;obtain⟨l,a,b,c⟩:=M.live _ _ z;exact⟨l,x.2,a,L l b,c,rfl,z⟩
 refine⟨s,G,⟨R.ext.trans W,λh o y=> ?_,λh B o U l l' V E f j F=> ?_,λh u=> ?_,λh u=> ?_,λh v l N f=> ?_,λi v e=>let ⟨l,a,b⟩:=R.env i v e;⟨l,G _ _ a,b⟩⟩,λg v y=>y.shift K⟩
 ·rcases zAq h H.n with q|q
  ·obtain⟨l,a,b,c,_⟩:=r h o q y;exact⟨l,by rw[k h q];exact a,b,c.move G (W.block _ c.lt)⟩
  ·obtain⟨l,O,a,b,c,rfl,_⟩:=m h o q y;exact⟨BE H.n l,by rw[d h q,a];rfl,.inl (zB5 R.ext.size b),c.shift K⟩
 ·rcases zAq h H.n with q|q<;>rcases zAq B H.n with I|I
  ·obtain⟨l1,C,_,_,P⟩:=r h o q V;obtain⟨T,D,_,_,Q⟩:=r B U I E;rw[k h q,C]at f;rw[k B I,D]at j;cases f;cases j;exact R.inj h B o U _ _ P Q C D F
  ·obtain⟨l1,C,_,c1,P⟩:=r h o q V;obtain⟨T,O,D,b2,_,rfl,Q⟩:=m B U I E;rw[k h q,C]at f;rw[d B I,D]at j;cases f;cases j;have:=c1.lt;simp only[BE]at F;omega
  ·obtain⟨l1,o1,C,b1,_,rfl,P⟩:=m h o q V;obtain⟨T,D,_,c2,Q⟩:=r B U I E;rw[d h q,C]at f;rw[k B I,D]at j;cases f;cases j;have:=c2.lt;simp only[BE]at F;omega
  ·obtain⟨l1,o1,C,b1,_,rfl,P⟩:=m h o q V;obtain⟨T,O,D,b2,_,rfl,Q⟩:=m B U I E;rw[d h q,C]at f;rw[d B I,D]at j;cases f;cases j;have:=M.inj _ _ _ _ _ _ P Q C D F;omega
 ·have aa:H.n+n<=h:=u;rw[d h (by omega),M.fresh (h - H.n) (by show n<=_;omega)];rfl
 ·have aa:h<H.n+n:=u;rcases zAq h H.n with q|q
  ·obtain⟨l,f⟩:=R.dense h q;exact⟨l,by rw[k h q];exact f⟩
  ·obtain⟨l,f⟩:=M.dense (h - H.n) (by show _<n;omega);exact⟨BE H.n l,by rw[d h q,f];rfl⟩
 ·obtain⟨o,S⟩:=sZ.1 N;rcases zAq h H.n with q|q
  ·rw[X h q]at S;rw[k h q]at f;obtain⟨lv,a,b,c⟩:=R.vers h v l (sZ.2 ⟨o,S⟩) f;have y:=iB.2 ⟨v,S⟩;obtain⟨l',j,_,ck⟩:=R.live h o y;rw[f]at j;cases j;refine⟨lv,G _ _ a,by rw[W.block _ ck.lt];exact b,?_⟩
   obtain⟨v2,ad⟩:=iB.1 c;exact iB.2 ⟨v2,by rw[X h q];exact ad⟩
  ·obtain⟨x,E,e⟩:=gh h _ q S;cases e;rw[d h q]at f;obtain⟨T,ab,rfl⟩:=Option.map_eq_some_iff.1 f;obtain⟨lv,a,b,c⟩:=M.vers (h - H.n) x.1 T (sZ.2 ⟨x.2,E⟩) ab;refine⟨BE H.n lv,K _ _ a,b,?_⟩
   have h3:(JX n os).get (h - H.n)=some x.2:=iB.2 ⟨x.1,E⟩;rw[c]at h3;have h4:=Option.some.inj h3;exact iB.2 ⟨_,by rw[S,<-h4];rfl⟩
end
theorem YP {a b:Nat×Nat} (h:Sm a b=true):a=b:=by
 obtain⟨f,d⟩:=a;obtain⟨g,e⟩:=b;unfold Sm at h;cases c:Nat.beq d e with
 |false=>simp[c]at h
 |true=>
  simp only[c,cond_true]at h;rw[zA4 h,zA4 c]
theorem TR {c:eG} {n l:Nat} {x:ByteArray} (a:n=mG (bL x)) (b:l=(bL x).length):Rl c (.str n l) (.string x):=by
 rw[a,b];exact .str x
def isS (a:List GV) (p:Nat×Nat):Bool:=List.casesOn (motive:=λ_=>Bool) a false λu r=>List.casesOn (motive:=λ_=>Bool) r (Option.casesOn (motive:=λ_=>Bool) (GV.asStr u) false λs=>Sm s p) λ_ _=>false
theorem Zr {b:List GV} {p:Nat×Nat} (h:isS b p=true):b=[.str p.1 p.2]:=by
 cases b with
 |nil=>cases h
 | cons u r =>
  cases r with
  |cons _ _=>cases h
  | nil =>
   cases a:GV.asStr u with
   |none=>simp[isS,a]at h
   |some s=>
    have:Sm s p=true:=by simpa [isS,a]using h
    rw[qJ a,YP this]
noncomputable section
def ZW (H:GH) (a:List Nat):Option OL:=List.rec (motive:=λ_=>Option OL) (some []) (λh _ b=>ob (H.t.get h) λp=>ob b λr=>some ((h,p.1,p.2)::r)) a
theorem II {H:GH}:∀{c:List Nat} {b:OL},ZW H c=some b->∀x∈b,H.t.get x.1=some x.2
 | [],b,h,x,a=>by cases h;cases a
 |h0::c,b,h,x,a=>by
  obtain⟨p,d,h⟩:=aF.1 (show ob (H.t.get h0) (λp=>ob (ZW H c) λr=>some ((h0,p.1,p.2)::r))=some b from h);obtain⟨r,e,h⟩:=aF.1 h;cases h;rcases zAo.1 a with rfl|a
  ·exact d
  ·exact II e x a
def Vj (T:Hg) (G:GP) (a f:Nat) (d:List GV) (b:List Nat):Option (GV×Nat×OL):=ob (KF T G a f d H0) λr=>ob (ZW r.2 b) λc=>some (r.1,r.2.n,c)
def shK {R:Type} (k:Nat) (v:GV) (f:GV->R):R:=GV.casesOn (motive_1:=λ_=>R) v (λa b=>f (.int a b)) (λb=>f (.bool b)) (λa b=>f (.str a b)) (λh o=>sn (Nat.add k h) λh=>f (.ptr h o)) (f .pnil) (λh o l s=>sn (Nat.add k h) λh=>f (.sl h o l s)) (f .snil) (λh=>sn (Nat.add k h) λh=>f (.map h)) (λa b c=>f (HR k (.fn a b c))) (f .fnil) (f .inil) (λd=>f (HR k (.agg d))) (λe=>f (HR k (.tup e))) (f .un) (f .bad) (λh=>sn (Nat.add k h) λh=>f (.opn h))
theorem aaj {R:Type} (k:Nat) (v:GV) (f:GV->R):shK k v f=f (HR k v):=by
 cases v<;>simp[shK,xI,HR]
def agl {R:Type} (k:Nat) (l:List GV):(List GV->R)->R:=List.rec (motive:=λ_=>(List GV->R)->R) (λf=>f []) (λx _ a f=>shK k x λy=>a λr=>f (y::r)) l
theorem VC {R:Type} (k:Nat):∀(l:List GV) (f:List GV->R),agl k l f=f (Xp k l)
 | [],f=>rfl
 |x::l,f=>by
  show shK k x (λy=>agl k l λr=>f (y::r))=_;rw[aaj,VC k l];rfl
def agm {R:Type} (k:Nat) (o:GO) (f:GO->R):R:=GO.casesOn (motive:=λ_=>R) o (λa=>agl k a λa=>f (.cells a)) (λb=>f (shO k (.mp b)))
theorem adm {R:Type} (k:Nat) (o:GO) (f:GO->R):agm k o f=f (shO k o):=by
 cases o with
 |cells a=>exact VC k a _
 |mp b=>rfl
def agc {R:Type} (k:Nat) (t:Tr (Nat×GO)) (b:OL):(Tr (Nat×GO)->R)->R:=List.rec (motive:=λ_=>(Tr (Nat×GO)->R)->R) (λf=>f t) (λx _ a f=>a λt=>sn (Nat.add k x.2.1) λv=>sn (Nat.add k x.1) λh=>agm k x.2.2 λo=>t.setK (some (v,o)) h f) b
theorem Vt {R:Type} (k:Nat) (t:Tr (Nat×GO)):∀(a:OL) (f:Tr (Nat×GO)->R),agc k t a f=f (Rb k t a)
 | [],f=>rfl
 |x::a,f=>by
  show agc k t a (λt=>sn (Nat.add k x.2.1) λv=>sn (Nat.add k x.1) λh=>agm k x.2.2 λo=>t.setK (some (v,o)) h f)=_;rw[Vt k t a];simp only[xI,adm,Dg];rfl
def QK (g:GV) (n:Nat) (a:OL) (H:GH):Option (GV×GH):=sn H.n λk=>shK k g λg=>agc k H.t a λt=>sn (Nat.add k n) λm=>some (g,⟨m,t⟩)
theorem ZH (g:GV) (n:Nat) (a:OL) (H:GH):QK g n a H=some (HR H.n g,H.load n a):=by
 unfold QK;simp only[xI,aaj,Vt];rfl
theorem Vk {P:Program} {T:Hg} {G:GP} {gs gs2:Ai} (j:gs2.obs=gs.obs) (d:gs2.env=[]) (M:Kx T G.tab) (L:∀m:fC gs2,VY P G T.fns m) {a f n:Nat} {y:List GV} {z:List Value} {O:List Nat} {g:GV} {c:OL} (i:Vj T G a f y O=some (g,n,c)) (C:aW P f)
  {m:fC gs} {w:World} {F:eG} {H o:GH} {B:GV} (Q:pS (λ_=>none) y z) (h:QK g n c H=some (B,o)) (R:fW m F H w):kP P m F f z w B o:=by
 rw[ZH]at h;cases h;obtain⟨r,D,i⟩:=aF.1 (show ob (KF T G a f y H0) _=some (g,n,c)from i);obtain⟨S,s,i⟩:=aF.1 i;cases i;rw[Ho M]at D;have b:IY gs2 w λ_=>False:=λp t=>⟨(R.glo p (j▸t)).1,id⟩
 rcases Hn L (H':=r.2) (g:=r.1) D (fW.start (fC.of w b) d) Q with⟨v,E,l,k,_⟩|⟨_,N⟩
 ·have:=C z.toArray w;rw[show(fC.of w b).w=w from rfl,this]at k;cases k
 ·refine .inr ⟨C _ w,N.mono ?_⟩;rintro e E ⟨v,A,rfl,_,I,u⟩;have J:fW (fC.of w b) A (JX r.2.n c) E:=I.sub Z λh p t=>by
   have:Xo c h=some p:=(EP c h).symm.trans t;exact II s _ (OB this)
  obtain⟨l,q,K,x⟩:=R.join J;exact⟨v,l,rfl,q,K,x _ _ u⟩
theorem WR {P:Program} {T:Hg} {G:GP} {gs:Ai} (y:Kx T G.tab) (x:∀H:fC gs,VY P G T.fns H) {a f n:Nat} {m:List GV} {o:List Value} {D:List Nat} {g:GV} {j:OL} (d:Vj T G a f m D=some (g,n,j)) (z:aW P f)
  (E:pS (λ_=>none) m o) (B:gs.env=[]) (b:fC gs):Calls P f o.toArray b.w λe q=>∃v c,e = .returned v∧fW b c (JX n j) q∧Rl c g v:=by
 obtain⟨r,t,d⟩:=aF.1 (show ob (KF T G a f m H0) _=some (g,n,j)from d);obtain⟨F,k,d⟩:=aF.1 d;cases d;rw[Ho y]at t;rcases Hn x (H':=r.2) (g:=r.1) t (fW.start b B) E with⟨v,q,c,i,_⟩|⟨_,A⟩
 ·have:=z o.toArray b.w;rw[this]at i;cases i
 ·refine A.mono ?_;rintro e q ⟨v,s,rfl,_,u,l⟩;exact⟨v,s,rfl,u.sub Z λh p C=>by
   have:Xo j h=some p:=(EP j h).symm.trans C;exact II k _ (OB this),l⟩
end
theorem TE {P:Program} {gs:Nat->Ai} {L:List bE} (D:∀w S,(∀h∈L,h.p w S)->∃T,IY (gs T) w λ_=>False) {f n:Nat} {z:List Value} {g:GV} {y:OL}
  (h:∀T (b:fC (gs T)),Calls P f z.toArray b.w λe s=>∃v c,e = .returned v∧fW b c (JX n y) s∧Rl c g v) {A:Type} {o:A->Value} {LO:A->List bE}
  (d:∀T (b:fC (gs T)) (B:eG) (w:World) (V:Value),(∀k,b.mine k->b.w.heap.size<=k)->fW b B (JX n y) w->Rl B g V->∃x:A,V=o x∧∀q∈LO x,q.p w (λk=>b.w.heap.size<=k)):
  aY P f z.toArray L o (λ_ l=>l) (λx l=>LO x++l):=by
 intro t C H;obtain⟨T,u⟩:=D t C H;refine(h T (.of t u)).mono ?_;rintro e s ⟨v,c,rfl,R,G⟩;obtain⟨x,rfl,F⟩:=d T (.of t u) c s v (λk r=>r.elim id False.elim) R G;refine⟨x,rfl,R.ext,λ_ _=>False,⟨λi m E=>by simp at E,λi k h=>h.elim,λi j k h=>h.elim⟩,λq a=> ?_⟩
 have a:q∈LO x++[]:=a;rw[List.append_nil]at a;exact bE.wide (F q a) (λk r=>⟨.inr (.inl r),λi h=>h.elim⟩)
noncomputable def Js (s:ByteArray):Nat×Nat:=(mG (bL s),(bL s).length)
theorem Qv {a b:ByteArray} (h:Js a=Js b):a=b:=by
 have c:=YO a b;unfold Js at h;rw[h]at c;have e:Sm (mG (bL b),(bL b).length) (mG (bL b),(bL b).length)=true:=by simp[Sm]
 rw[e]at c;have d:a.toList=b.toList:=eq_of_beq c.symm;rw[Lib.toList_data,Lib.toList_data]at d;obtain⟨⟨x⟩⟩:=a;obtain⟨⟨y⟩⟩:=b;simp only at d;rw[d]
noncomputable def afp (a:List GV):Option (Nat×Nat):=List.casesOn (motive:=λ_=>Option (Nat×Nat)) a none λc r=>List.casesOn (motive:=λ_=>Option (Nat×Nat)) r c.asStr λ_ _=>none
abbrev age:eQ ByteArray:=⟨1,Nat.one_pos,λ_ _ a x=>a=[.string x],λh=>by simp[h],λh _=>h⟩
theorem iN.str {S:Nat->Prop} {g:eG} {w:World}:iN S g w afp age Js:=λgs f y a h _=>by
 cases gs with
 |nil=>cases h
 |cons c gs=>
 cases gs with
 |cons _ _=>cases h
 |nil=>
 have h:c.asStr=some y:=h;obtain⟨v,f,rfl,b,a⟩:=a.of_cons;rw[a.of_nil];rw[qJ h]at b;obtain⟨x,rfl,d,e⟩:=b.str_inv;exact⟨x,by unfold Js;rw[<-d,<-e],rfl⟩
theorem adq {c:eG} {V:Value} {n l:Nat} {s:ByteArray} (h:Rl c (.str n l) V) (e:Js s=(n,l)):V = .string s:=by
 obtain⟨x,rfl,a,b⟩:=h.str_inv;have:Js x=Js s:=by rw[e];unfold Js;rw[<-a,<-b]
 rw[Qv this]
theorem Ld {c:Type}:∀a b:c,id a=id b->a=b:=λ_ _ h=>h
theorem EL {c d e i:Type} {f:c->e} {g:d->i} (j:∀a b,f a=f b->a=b) (k:∀a b,g a=g b->a=b):∀a b:c×d,(λz:c×d=>(f z.1,g z.2)) a=(λz:c×d=>(f z.1,g z.2)) b->a=b:=λa b h=>by
 obtain⟨l,m⟩:=a;obtain⟨n,o⟩:=b;simp only[Prod.mk.injEq]at h;rw[j _ _ h.1,k _ _ h.2]
theorem Li {g i:Type} {f:g->i} (e:∀a b,f a=f b->a=b):∀{c d:List g},c.map f=d.map f->c=d
 | [],[],_=>rfl
 | [],_::_,h=>by simp at h
 |_::_,[],h=>by simp at h
 |a::c,b::d,h=>by
  simp only[zB3,List.cons.injEq]at h;rw[e _ _ h.1,Li e h.2]
end Go.Gx
section
set_option maxRecDepth 100000
namespace Go.Gx
open Go Go.Sx Go.Proofs Go.Proofs.YtlkhndebimcbbaaGreatDoor
def AH (l:pG):List GV:=l.map λn=> .int .i64 (.ofNat n)
abbrev WH:Nat:=71249362481079977452884316497893485862003781378380186443723211848324143362108177885825419081494821760013661206001097331844441314216469646330948494578433579262219834318486201028918376115292234488190700106942185120577518256511015159373632050200221875266428893346870089151936961848021402711157309556811570579452411680726714441114401627388096496024253845716638330773660915918662884872349758420128557367125203571583786029032399741638474503939646749525176616068912753182428383816770282999284942596549464335299041578590498704846876479973995637544997300808465629673589532931271276867856109758593603349879408733903821463777771303521998656430507938449710980075854559363989016083892713040828720973422783465502057059703922495107079261490020884616910566195303447459199789638099550237825859650229398681345092860498350921460315705906616442288394582691200440280135629162006963382844585911948056220785599387271665395519496413351471157088698250728565328718568235708145832114557345173602352771027404378663854631932098478169816132556163210119982019532849716161103768839540877472227068661770096791273707001174665743715154553128055607401500841088534854391588672059193795601211258321011231050774593156430084765392881009496824427195855467792851940283086600280108372309832209821085536023972216446949998813815478863454932518093775342849783278727011324956570494402720150194198228748565212249332223202955995657936385103356277284401707377096495385107540722377361240699143073602638306000298122043359982192
def mu0:List GV:=[.str WH 613]
def mg0:GV:=(.tup [(.sl 2345 0 275 4),(.int .i64 (.ofNat 0)),(.int .i64 (.ofNat 0))])
def mo0:OL:=[(2345,2345,.cells (AH [1,0,7,0,1,8,16,0,3,16,17,0,1,18,21,0,1,22,23,0,3,24,25,0,2,26,27,0,3,28,30,0,1,31,32,0,3,32,33,0,1,34,37,0,1,38,39,0,3,40,41,0,1,42,46,0,3,46,47,0,1,48,51,0,1,52,53,0,3,54,55,0,1,56,60,0,3,60,61,0,1,62,65,0,1,66,67,0,3,68,69,0,1,70,74,0,3,74,75,0,1,76,79,0,1,80,81,0,3,82,83,0,2,84,85,0,3,86,88,0,2,89,91,15,3,91,92,0,1,93,96,0,1,97,98,0,3,99,100,0,2,101,102,0,3,103,105,0,2,106,108,15,3,109,110,0,1,111,112,0,3,112,113,0,1,114,118,0,1,119,122,0,3,122,123,0,1,124,128,0,3,129,131,0,3,132,133,0,1,133,134,0,3,135,137,0,2,138,139,0,3,140,142,0,1,143,144,0,3,145,147,0,1,148,152,0,3,152,153,0,3,154,156,0,1,157,158,0,3,159,161,0,2,162,163,0,3,163,164,0,1,165,166,0,3,167,169,0,1,170,174,0,3,174,175,0,1,176,180,0,1,181,184,0,3,184,185,0,3,186,187,0,1,187,191,0,3,192,194,0,3,195,196,0,1,196,197,0,3,198,200,0,3,201,202,0,1,202,205,0,3,205,206,0,1,206,207,0,3,207,208,0,1,208,209,0,3,209,210,0,3,211,212,0,1,213,214,0,3,215,216,0,1,217,220,0,3,220,221,0,1,221,222,0,3,222,223,0,1,223,224,0,3,224,225,0,3,226,227,0,2,228,229,1,3,230,231,0,1,232,233,0,3,233,234,0,3,235,237,0,1,238,239,0,3,240,242,0,1,243,248,0,3,248,249,0,1,249,250,0,3,250,251,0,1,251,252,0,3,253,255,0,1,256,259,0,3,259,260,0,1,260,261,0,3,261,262,0,1,262,263,0,3,263,264,0,3,264,265,0,3,265,266,0,3,269,271,0,1,272,273,0,3,274,276,0,3,277,278,0,1,278,281,0,3,281,282,0,1,282,283,0,3,283,284,0,1,284,285,0,3,285,286,0,3,287,288,0,1,289,290,0,3,291,292,0,1,293,296,0,3,296,297,0,1,297,298,0,3,298,299,0,1,299,300,0,3,300,301,0,3,302,303,0,2,304,305,1,3,306,307,0,1,308,309,0,3,309,310,0,3,310,311,0,1,312,313,0,3,314,316,0,1,317,322,0,3,322,323,0,1,323,324,0,3,324,325,0,1,325,326,0,3,327,329,0,1,330,333,0,3,333,334,0,1,334,335,0,3,335,336,0,1,336,337,0,3,337,338,0,3,338,339,0,3,339,340,0,1,341,345,0,1,346,351,0,3,351,352,0,1,353,357,0,3,358,360,0,3,361,362,0,1,362,363,0,3,364,366,0,1,367,368,0,3,369,371,0,1,372,376,0,3,376,377,0,1,378,379,0,3,380,382,0,3,383,384,0,1,384,385,0,3,385,386,0,1,387,391,0,1,392,396,0,3,396,397,0,3,398,399,0,1,399,403,0,3,404,406,0,1,407,411,0,3,411,412,0,1,412,413,0,3,414,416,0,1,417,418,0,3,419,421,0,3,422,423,0,1,423,424,0,3,424,425,0,1,425,426,0,3,427,429,0,1,430,431,0,3,432,434,0,1,435,436,0,3,437,439,0,3,440,441,0,1,441,442,0,3,442,443,0,1,443,444,0,3,444,445,0,3,445,446,0,3,447,449,0,1,450,451,0,3,452,454,0,1,455,459,0,3,459,460,0,1,460,461,0,3,462,464,0,1,465,466,0,3,467,469,0,1,470,471,0,3,471,472,0,1,472,473,0,3,473,474,0,3,474,475,0,1,476,477,0,3,478,480,0,1,481,485,0,3,485,486,0,1,486,487,0,3,488,490,0,1,491,492,0,3,493,495,0,1,496,497,0,3,497,498,0,1,498,499,0,3,499,500,0,3,500,501,0,1,502,506,0,1,507,513,0,3,513,514,0,1,515,516,0,3,517,519,0,1,520,523,0,3,523,524,0,1,524,525,0,3,525,526,0,1,526,527,0,3,528,530,0,1,531,532,0,3,532,533,0,1,533,537,0,3,538,540,0,3,541,542,0,1,542,543,0,3,543,544,0,1,544,545,0,3,546,548,0,1,549,550,0,3,550,551,0,1,551,552,0,3,553,555,0,1,556,557,0,3,557,558,0,3,559,561,0,1,562,563,0,3,564,566,0,1,567,572,0,3,572,573,0,1,574,575,0,3,576,578,0,1,579,580,0,3,581,582,0,1,583,586,0,3,586,587,0,1,587,588,0,3,588,589,0,1,589,590,0,3,591,593,0,1,594,595,0,3,595,596,0,1,596,600,0,3,601,602,0,1,603,604,0,3,604,605,0,1,605,606,0,3,607,608,0,2,609,610,0,3,610,611,0,3,611,612,0]))]
set_option maxHeartbeats 4000000 in
theorem me0:Vj IN gp 4000 69 mu0 [2345]=some (mg0,2346,mo0):=by kernel_rfl
noncomputable def La (f:Nat) (a:List GV) (H:GH):Option (GV×GH):=bif Nat.beq f 69 then(bif isS a (WH,613)then QK mg0 2346 mo0 H else Zd f a H)else Zd f a H
noncomputable def aie:GP:=⟨xJ,gp.cat,La,gp.exn⟩
theorem Iy {T:Nat} {k:fC (gl T)} {w:World} {e:eG} {H i:GH} {g:GV} {d:List GV} {j:fO} {f:Nat} (h:La f d H=some (g,i)) (R:fW k e H w) (a:pS e d j):kP Tryz.prog k e f j w g i:=by
 unfold La at h;cases b:Nat.beq f 69 with
 |false=>rw[b]at h;exact Ou h R a
 | true =>
  rw[b]at h;cases c:isS d (WH,613)with
  |false=>rw[c]at h;exact Ou h R a
  |true=>
   rw[c]at h;rw[zA4 b];rw[Zr c]at a;obtain⟨V,rfl,n⟩:=a.one;obtain⟨x,rfl,l,m⟩:=n.str_inv;exact Vk (gs:=gl T) (gs2:=gl T) Z Z HN Zf me0 Tryz.call69 (pS.cons (TR l m) .nil) h R
theorem adL {T:Nat} (a:fC (gl T)):VY Tryz.prog aie IN.fns a:=⟨(Zf a).tab,(Zf a).mixed,(Zf a).fns,λh d w c R b=>Iy h R b,(Zf a).exn,(Zf a).cat⟩
def mu1:List GV:=[.str WH 613]
def mg1:GV:=(.agg [(.str 8390039475830484595 8),(.sl 2615 0 6 6),(.sl 4519 0 5 3)])
def ZJ:OL:=[(2615,2615,.cells [(.str 100 1),(.int .i64 (.ofNat 1)),(.int .i64 (.ofNat 0)),(.int .i64 (.ofNat 0)),(.int .i64 (.ofNat 1)),(.int .i64 (.ofNat 0)),(.str 112 1),(.int .i64 (.ofNat 3)),(.int .i64 (.ofNat 0)),(.int .i64 (.ofNat 0)),(.int .i64 (.ofNat 0)),(.int .i64 (.ofNat 0)),(.str 115 1),(.int .i64 (.ofNat 2)),(.int .i64 (.ofNat 0)),(.int .i64 (.ofNat 0)),(.int .i64 (.ofNat 0)),(.int .i64 (.ofNat 0)),(.str 98 1),(.int .i64 (.ofNat 2)),(.int .i64 (.ofNat 0)),(.int .i64 (.ofNat 0)),(.int .i64 (.ofNat 0)),(.int .i64 (.ofNat 0)),(.str 120 1),(.int .i64 (.ofNat 1)),(.int .i64 (.ofNat 0)),(.int .i64 (.ofNat 15)),(.int .i64 (.ofNat 0)),(.int .i64 (.ofNat 0)),(.str 97 1),(.int .i64 (.ofNat 1)),(.int .i64 (.ofNat 0)),(.int .i64 (.ofNat 0)),(.int .i64 (.ofNat 15)),(.int .i64 (.ofNat 0))]),
 (2739,2739,.cells (AH [41,0,10,0,42,0,36,0,5,0,1,0,36,0,5,1,4,0])),
 (2765,2765,.cells [(.int .i64 (.ofNat 1)),(.int .i64 (.ofNat 0))]),
 (2798,2798,.cells [(.int .i64 (.ofNat 4)),(.int .i64 (.ofNat 0))]),
 (2806,2806,.cells [(.int .i64 (.ofNat 0)),(.sl 2765 0 1 2),(.int .i64 (.ofNat 1)),(.sl 2798 0 1 2)]),
 (3194,3194,.cells (AH [41,0,19,0,10,0,42,0,36,0,5,0,43,0,37,0,24,0,12,0,6,0,33,0,24,0,12,0,1,1,6,0,36,0,5,1,23,0,35,0,12,0,24,0,12,0])),
 (3375,3375,.cells (AH [43,0,37,0,24,0,12,0,6,0,33,0,24,0,12,0,1,1,6,0])),
 (3501,3501,.cells (AH [23,0,35,0,12,0,24,0,12,0])),
 (3509,3509,.cells [(.int .i64 (.ofNat 0)),(.sl 3375 0 10 2),(.int .i64 (.ofNat 1)),(.sl 3501 0 5 2)]),
 (3577,3577,.cells (AH [41,0,10,0,19,0,5,2])),
 (3604,3604,.cells [(.int .i64 (.ofNat 2)),(.int .i64 (.ofNat 0))]),
 (3646,3646,.cells (AH [19,0,5,3])),
 (3654,3654,.cells [(.int .i64 (.ofNat 2)),(.sl 3604 0 1 2),(.int .i64 (.ofNat 3)),(.sl 3646 0 2 2)]),
 (3888,3888,.cells (AH [41,0,19,0,10,0,21,0,41,0,35,0,11,0,5,1,42,0,36,0,12,3,5,3,41,0,5,2,19,0,12,2])),
 (3988,3988,.cells (AH [21,0,41,0,35,0,11,0,5,1,12,2])),
 (4094,4094,.cells (AH [21,0,41,0,35,0,11,0,5,1,12,3])),
 (4102,4102,.cells [(.int .i64 (.ofNat 2)),(.sl 3988 0 6 2),(.int .i64 (.ofNat 3)),(.sl 4094 0 6 2)]),
 (4313,4313,.cells (AH [41,0,5,2,20,0,42,0,36,0,12,1,17,0,41,0,19,0,12,2,35,0,12,3,5,3])),
 (4340,4340,.cells [(.int .i64 (.ofNat 3)),(.int .i64 (.ofNat 0))]),
 (4504,4504,.cells (AH [33,0,5,4,26,0,43,0,35,0,12,1,17,0,12,5,1,0])),
 (4511,4511,.cells [(.int .i64 (.ofNat 2)),(.sl 4340 0 1 2),(.int .i64 (.ofNat 5)),(.sl 4504 0 9 2)]),
 (4519,4519,.cells [(.str 7368564 3),(.sl 2739 0 9 2),(.sl 2806 0 2 2),(.str 7827308 3),(.sl 3194 0 23 2),(.sl 3509 0 2 2),(.str 474214786402 5),(.sl 3577 0 4 2),(.sl 3654 0 2 2),(.str 1701536116 4),(.sl 3888 0 16 2),(.sl 4102 0 2 2),(.str 114844899371366 6),(.sl 4313 0 13 2),(.sl 4511 0 2 2)])]
set_option maxHeartbeats 4000000 in
theorem me1:Vj IN aie 4000 19 mu1 [2615,2739,2765,2798,2806,3194,3375,3501,3509,3577,3604,3646,3654,3888,3988,4094,4102,4313,4340,4504,4511,4519]=some (mg1,6842,ZJ):=by kernel_rfl
noncomputable def To (f:Nat) (a:List GV) (H:GH):Option (GV×GH):=bif Nat.beq f 19 then(bif isS a (WH,613)then QK mg1 6842 ZJ H else La f a H)else La f a H
noncomputable def aif:GP:=⟨xJ,gp.cat,To,gp.exn⟩
theorem WF {T:Nat} {k:fC (gl T)} {w:World} {e:eG} {H i:GH} {g:GV} {d:List GV} {j:fO} {f:Nat} (h:To f d H=some (g,i)) (R:fW k e H w) (a:pS e d j):kP Tryz.prog k e f j w g i:=by
 unfold To at h;cases b:Nat.beq f 19 with
 |false=>rw[b]at h;exact Iy h R a
 | true =>
  rw[b]at h;cases c:isS d (WH,613)with
  |false=>rw[c]at h;exact Iy h R a
  |true=>
   rw[c]at h;rw[zA4 b];rw[Zr c]at a;obtain⟨V,rfl,n⟩:=a.one;obtain⟨x,rfl,l,m⟩:=n.str_inv;exact Vk (gs:=gl T) (gs2:=gl T) Z Z HN adL me1 Tryz.call19 (pS.cons (TR l m) .nil) h R
theorem aid {T:Nat} (a:fC (gl T)):VY Tryz.prog aif IN.fns a:=⟨(Zf a).tab,(Zf a).mixed,(Zf a).fns,λh d w c R b=>WF h R b,(Zf a).exn,(Zf a).cat⟩
noncomputable abbrev gp2:GP:=aif
theorem alk {T:Nat} (a:fC (gl T)):VY Tryz.prog gp2 IN.fns a:=aid a
end Go.Gx
end
namespace Go.Gx
open Go Go.Sx Go.RowKit
structure Hd (n:Nat) (os:OL) (ρ:eG) (w:World) (S:Nat->Prop):Prop where
 live:∀h o,(JX n os).get h=some o->∃l,ρ h=some l∧S l.b∧yZ ρ w l o
 inj:∀h h' o o' l l',(JX n os).get h=some o->(JX n os).get h'=some o'->ρ h=some l->ρ h'=some l'->l.b=l'.b->h=h'
 fresh:∀h,n<=h->ρ h=none
 dense:∀h,h<n->∃l,ρ h=some l
 vers:∀h v l,(JX n os).ver h=some v->ρ h=some l->∃lv,ρ v=some lv∧w.heap[l.b]? = some lv.x∧(JX n os).get h=some lv.o
theorem Hd.mono {n:Nat} {p:OL} {f:eG} {w w':World} {S g:Nat->Prop} (H:Hd n p f w S) (h:∀k,S k->k<w.heap.size->g k∧w'.heap[k]? = w.heap[k]?):Hd n p f w' g:=by
 refine⟨λk o s=> ?_,H.inj,H.fresh,H.dense,λk v l m j=> ?_⟩
 ·obtain⟨l,a,b,c⟩:=H.live k o s;obtain⟨d,e⟩:=h _ b c.lt;exact⟨l,a,d,c.move (eG.le_refl f) e⟩
 ·obtain⟨u,a,b,c⟩:=H.vers k v l m j;obtain⟨o,t⟩:=sZ.1 m;obtain⟨x,i,q,r⟩:=H.live k o (iB.2 ⟨v,t⟩);rw[j]at i;cases i;exact⟨u,a,by rw[(h _ q r.lt).2];exact b,c⟩
theorem fW.hd {gs:Ai} {b:fC gs} {n:Nat} {d:OL} {ρ:eG} {w:World} {S:Nat->Prop} (R:fW b ρ (JX n d) w) (e:∀k,b.mine k->S k):Hd n d ρ w S:=
 ⟨λh o f=>let ⟨l,a,b,c⟩:=R.live h o f;⟨l,a,e _ b,c⟩,R.inj,R.fresh,R.dense,R.vers⟩
def Xv (n:Nat) (b:OL) (g:GV) (V:Value):bE where
 p w S:=∃a,Hd n b a w S∧Rl a g V
 mono:=fun⟨a,h,r⟩ k=>⟨a,h.mono k,r⟩
def Hd.O (n:Nat) (a:OL) (c:eG) (k:Nat):Prop:=∃h o l,(JX n a).get h=some o∧c h=some l∧l.b=k
def Hd.base (n:Nat) (os:OL) (ρ:eG) (w:World):fC noG:=⟨w,Hd.O n os ρ,λ_ h=>absurd h List.not_mem_nil⟩
theorem Hd.rel {n:Nat} {b:OL} {ρ:eG} {w:World} {S:Nat->Prop} (H:Hd n b ρ w S):fW (Hd.base n b ρ w) ρ (JX n b) w:=
 ⟨CB.refl w,λh o d=>let ⟨l,a,_,c⟩:=H.live h o d;⟨l,a,.inr ⟨h,o,l,d,a,rfl⟩,c⟩,H.inj,H.fresh,H.dense,H.vers,λi v e=>by simp[Hd.base,noG]at e⟩
noncomputable def Gh (H:GH) (b:OL):Bool:=List.rec (motive:=λ_=>Bool) true (λx _ a=>Option.casesOn (motive:=λ_=>Bool) (H.ver x.1) false λv=>bif Nat.beq v x.2.1 then a else false) b
theorem Rp {H:GH}:∀{a:OL},Gh H a=true->∀x∈a,H.ver x.1=some x.2.1
 | [],_,x,b=>by cases b
 | y :: a, h, x, b => by
  have h:Option.casesOn (motive:=λ_=>Bool) (H.ver y.1) false (λv=>bif Nat.beq v y.2.1 then Gh H a else false)=true:=h;cases c:H.ver y.1 with
  |none=>rw[c]at h;cases h
  | some v =>
   rw[c]at h;obtain⟨d,f⟩:=bP.1 (show(bif Nat.beq v y.2.1 then(some (Gh H a))else none)=some true by
    have h:(bif Nat.beq v y.2.1 then Gh H a else false)=true:=h;cases e:Nat.beq v y.2.1<;>rw[e]at h<;>first|cases h|(show some (Gh H a)=some true;rw[show Gh H a=true from h]))
   rcases zAo.1 b with rfl|b
   ·rw[c,zA4 d]
   ·exact Rp (Option.some.inj f) x b
noncomputable def okV (a:OL) (r:OR):Bool:=Option.casesOn (motive:=λ_=>Bool) r false λr=>Option.casesOn (motive:=λ_=>Bool) r.1.asB false λb=>bif b then Gh r.2 a else false
theorem ZR {d:OL} {r:OR} (h:okV d r=true):∃a,r=some (.bool true,a)∧Gh a d=true:=by
 cases r with
 |none=>cases h
 | some r =>
  obtain⟨g,a⟩:=r;have h:Option.casesOn (motive:=λ_=>Bool) g.asB false (λb=>bif b then Gh a d else false)=true:=h;cases c:g.asB with
  |none=>rw[c]at h;cases h
  |some b=>
   rw[c]at h;cases b with
   |false=>cases h
   |true=>exact⟨a,by rw[Ck c],h⟩
theorem WK {P:Program} {G:GP} {x:FT} (F:∀T:fC noG,VY P G x T) {fuel f n:Nat} {d:OL} {g:GV} {V:Value} (H:aW P f) (h:∃r,UJ G x fuel f [g] (JX n d)=some (.bool true,r)∧Gh r d=true) {w:World} {S:Nat->Prop} (Q:(Xv n d g V).p w S):
  Calls P f #[V] w λe u=>e = .returned (.bool true)∧NN w u:=by
 obtain⟨U,y,M⟩:=Q;obtain⟨r,D,E⟩:=h;rcases Hn F D y.rel (.cons M .nil)with⟨v,u,W,m,_⟩|⟨_,I⟩
 ·have:=H #[V] w;rw[this]at m;cases m
 ·refine I.mono ?_;rintro e u ⟨v,X,rfl,j,c,N⟩;refine⟨by rw[N.bool_inv],c.ext.os,c.ext.tape,c.ext.output,c.ext.size,λk K=> ?_⟩
  by_cases A:Hd.O n d U k
  ·obtain⟨i,o,l,J,z,rfl⟩:=A;obtain⟨t,q⟩:=iB.1 J;have L:(i,t,o)∈d:=OB ((EP d i).symm.trans q);obtain⟨R,a,b,_⟩:=y.vers i t l (sZ.2 ⟨o,q⟩) z;obtain⟨s,B,C,_⟩:=c.vers i t l (Rp E _ L) (j _ _ z);have:R=s:=by have:=j _ _ a;rw[B]at this;exact(Option.some.inj this).symm
   subst this;exact C.trans b.symm
  ·exact c.ext.block k K A
end Go.Gx
namespace Go.Proofs.YtlkhndebimcbbaaGreatDoor
open Go Go.Sx Go.Gx
set_option maxRecDepth 100000
abbrev wZ:=ByteArray×(Value×fZ)×(Value×List (Int×(Value×fZ)))
def zJ (z:wZ):fZ×List (Int×fZ):=(z.2.1.2,z.2.2.2.map λs=>(s.1,s.2.2))
def Cq:ByteArray:=(ByteArray.mk #[112,114,111,103,114,97,109,32,115,110,97,112,115,104,111,116,59,10,118,97,114,32,100,32,58,32,48,32,46,46,32,110,59,10,118,97,114,32,112,32,58,32,112,111,114,116,59,10,118,97,114,32,115,32,58,32,98,111,111,108,59,10,118,97,114,32,98,32,58,32,98,111,111,108,59,10,118,97,114,32,120,32,58,32,48,32,46,46,32,49,53,59,10,118,97,114,32,97,32,58,32,48,32,46,46,32,49,53,32,42,32,110,59,10,114,117,108,101,32,116,111,112,58,32,114,111,111,116,32,38,38,32,40,100,32,33,61,32,48,32,124,124,32,112,32,33,61,32,110,111,110,101,41,32,45,62,32,100,32,58,61,32,48,44,32,112,32,58,61,32,110,111,110,101,59,10,114,117,108,101,32,108,111,119,58,32,33,114,111,111,116,32,38,38,32,40,100,32,33,61,32,40,109,105,110,40,113,46,100,41,32,60,32,110,32,63,32,109,105,110,40,113,46,100,41,32,43,32,49,32,58,32,110,41,32,124,124,32,112,32,33,61,32,102,105,114,115,116,40,113,46,100,32,61,61,32,109,105,110,40,113,46,100,41,41,41,10,32,32,45,62,32,100,32,58,61,32,40,109,105,110,40,113,46,100,41,32,60,32,110,32,63,32,109,105,110,40,113,46,100,41,32,43,32,49,32,58,32,110,41,44,32,112,32,58,61,32,102,105,114,115,116,40,113,46,100,32,61,61,32,109,105,110,40,113,46,100,41,41,59,10,114,117,108,101,32,98,101,103,105,110,58,32,114,111,111,116,32,38,38,32,33,115,32,45,62,32,115,32,58,61,32,116,114,117,101,44,32,98,32,58,61,32,33,98,59,10,114,117,108,101,32,116,97,107,101,58,32,33,114,111,111,116,32,38,38,32,115,111,109,101,40,113,32,61,61,32,112,32,38,38,32,40,113,46,98,32,33,61,32,98,32,124,124,32,115,32,38,38,32,33,113,46,115,41,41,32,45,62,32,115,32,58,61,32,115,111,109,101,40,113,32,61,61,32,112,32,38,38,32,113,46,115,41,44,32,98,32,58,61,32,115,111,109,101,40,113,32,61,61,32,112,32,38,38,32,113,46,98,41,59,10,114,117,108,101,32,102,105,110,105,115,104,58,32,115,32,38,38,32,97,108,108,40,113,46,112,32,33,61,32,113,46,98,97,99,107,32,124,124,32,33,113,46,115,32,38,38,32,113,46,98,32,61,61,32,98,41,32,45,62,32,115,32,58,61,32,102,97,108,115,101,44,32,97,32,58,61,32,120,32,43,32,115,117,109,40,113,46,112,32,61,61,32,113,46,98,97,99,107,32,63,32,113,46,97,32,58,32,48,41,59,10])
def IL:Jn:=[((ByteArray.mk #[100]),(1:Int),(0:Int),(0:Int),(1:Int),(0:Int)),((ByteArray.mk #[112]),(3:Int),(0:Int),(0:Int),(0:Int),(0:Int)),((ByteArray.mk #[115]),(2:Int),(0:Int),(0:Int),(0:Int),(0:Int)),((ByteArray.mk #[98]),(2:Int),(0:Int),(0:Int),(0:Int),(0:Int)),((ByteArray.mk #[120]),(1:Int),(0:Int),(15:Int),(0:Int),(0:Int)),((ByteArray.mk #[97]),(1:Int),(0:Int),(0:Int),(15:Int),(0:Int))]
def DD:Mc:=[([(41,0),(10,0),(42,0),(36,0),(5,0),(1,0),(36,0),(5,1),(4,0)],[(0,[(1,0)]),(1,[(4,0)])]),([(41,0),(19,0),(10,0),(42,0),(36,0),(5,0),(43,0),(37,0),(24,0),(12,0),(6,0),(33,0),(24,0),(12,0),(1,1),(6,0),(36,0),(5,1),(23,0),(35,0),(12,0),(24,0),(12,0)],[(0,[(43,0),(37,0),(24,0),(12,0),(6,0),(33,0),(24,0),(12,0),(1,1),(6,0)]),(1,[(23,0),(35,0),(12,0),(24,0),(12,0)])]),([(41,0),(10,0),(19,0),(5,2)],[(2,[(2,0)]),(3,[(19,0),(5,3)])]),([(41,0),(19,0),(10,0),(21,0),(41,0),(35,0),(11,0),(5,1),(42,0),(36,0),(12,3),(5,3),(41,0),(5,2),(19,0),(12,2)],[(2,[(21,0),(41,0),(35,0),(11,0),(5,1),(12,2)]),(3,[(21,0),(41,0),(35,0),(11,0),(5,1),(12,3)])]),([(41,0),(5,2),(20,0),(42,0),(36,0),(12,1),(17,0),(41,0),(19,0),(12,2),(35,0),(12,3),(5,3)],[(2,[(3,0)]),(5,[(33,0),(5,4),(26,0),(43,0),(35,0),(12,1),(17,0),(12,5),(1,0)])])]
def adR:List ((Nat×Nat)×fZ×List (Int×fZ)):=[((7368564,3),[(41,0),(10,0),(42,0),(36,0),(5,0),(1,0),(36,0),(5,1),(4,0)],[(0,[(1,0)]),(1,[(4,0)])]),((7827308,3),[(41,0),(19,0),(10,0),(42,0),(36,0),(5,0),(43,0),(37,0),(24,0),(12,0),(6,0),(33,0),(24,0),(12,0),(1,1),(6,0),(36,0),(5,1),(23,0),(35,0),(12,0),(24,0),(12,0)],[(0,[(43,0),(37,0),(24,0),(12,0),(6,0),(33,0),(24,0),(12,0),(1,1),(6,0)]),(1,[(23,0),(35,0),(12,0),(24,0),(12,0)])]),((474214786402,5),[(41,0),(10,0),(19,0),(5,2)],[(2,[(2,0)]),(3,[(19,0),(5,3)])]),((1701536116,4),[(41,0),(19,0),(10,0),(21,0),(41,0),(35,0),(11,0),(5,1),(42,0),(36,0),(12,3),(5,3),(41,0),(5,2),(19,0),(12,2)],[(2,[(21,0),(41,0),(35,0),(11,0),(5,1),(12,2)]),(3,[(21,0),(41,0),(35,0),(11,0),(5,1),(12,3)])]),((114844899371366,6),[(41,0),(5,2),(20,0),(42,0),(36,0),(12,1),(17,0),(41,0),(19,0),(12,2),(35,0),(12,3),(5,3)],[(2,[(3,0)]),(5,[(33,0),(5,4),(26,0),(43,0),(35,0),(12,1),(17,0),(12,5),(1,0)])])]
def PF (V:Value):bE:=⟨λw S=>(Xv 6842 ZJ mg1 V).p w S,λ{w w' S S'} h k=>by
 rcases h with h
 ·exact((Xv 6842 ZJ mg1 V).mono h k)⟩
noncomputable def Wl {R:Type} (D:Mc) (k:List wZ->Option R):Option R:=open Classical in if h:∃r,∀z:List wZ,z.map zJ=D->k z=some r then some (Classical.choose h)else none
theorem ML {R:Type} {D:Mc} {k:List wZ->Option R} {r:R} (h:Wl D k=some r) (z:List wZ) (a:z.map zJ=D):k z=some r:=by
 unfold Wl at h;split at h
 ·rename_i e;rw[<-Option.some.inj h];exact Classical.choose_spec e z a
 cases h
theorem Ux {R:Type} {D:Mc} {k:List wZ->Option R} {r:R} (h:∀z:List wZ,z.map zJ=D->k z=some r):Wl D k=some r:=by
 have e:∃r,∀z:List wZ,z.map zJ=D->k z=some r:=⟨r,h⟩
 unfold Wl;rw[dif_pos e];let z:List wZ:=D.map λx=>(ByteArray.empty,(undef,x.1),(undef,x.2.map λs=>(s.1,(undef,s.2))))
 have c:z.map zJ=D:=by
  show(D.map _).map zJ=D;rw[List.map_map]
  conv=>rhs;rw[<-List.map_id D]
  refine List.map_congr_left λx _=>?_;obtain⟨a,b⟩:=x;simp[zJ,Function.comp_def]
 rw[<-Classical.choose_spec e z c,h z c]
def mO (a:Nat) (b:ByteArray):Option aav:=if b=Cq then some ((ByteArray.mk #[115,110,97,112,115,104,111,116]),IL,DD)else none
theorem SU:aW Tryz.prog 19:=Tryz.call19
theorem UD:aW Tryz.prog 120:=Tryz.call120
theorem Ra:Js Cq=(71249362481079977452884316497893485862003781378380186443723211848324143362108177885825419081494821760013661206001097331844441314216469646330948494578433579262219834318486201028918376115292234488190700106942185120577518256511015159373632050200221875266428893346870089151936961848021402711157309556811570579452411680726714441114401627388096496024253845716638330773660915918662884872349758420128557367125203571583786029032399741638474503939646749525176616068912753182428383816770282999284942596549464335299041578590498704846876479973995637544997300808465629673589532931271276867856109758593603349879408733903821463777771303521998656430507938449710980075854559363989016083892713040828720973422783465502057059703922495107079261490020884616910566195303447459199789638099550237825859650229398681345092860498350921460315705906616442288394582691200440280135629162006963382844585911948056220785599387271665395519496413351471157088698250728565328718568235708145832114557345173602352771027404378663854631932098478169816132556163210119982019532849716161103768839540877472227068661770096791273707001174665743715154553128055607401500841088534854391588672059193795601211258321011231050774593156430084765392881009496824427195855467792851940283086600280108372309832209821085536023972216446949998813815478863454932518093775342849783278727011324956570494402720150194198228748565212249332223202955995657936385103356277284401707377096495385107540722377361240699143073602638306000298122043359982192,613):=by kernel_rfl
theorem ZX:Js (ByteArray.mk #[115,110,97,112,115,104,111,116])=(8390039475830484595,8):=by kernel_rfl
theorem ZZ:Oj (JX 6842 ZJ) 6 (dP 1 afp (dP 1 (dI .i64) (dP 1 (dI .i64) (dP 1 (dI .i64) (dP 1 (dI .i64) (dI .i64)))))) (.sl 2615 0 6 6)=some (IL.map λz=>(Js z.1,z.2.1,z.2.2.1,z.2.2.2.1,z.2.2.2.2.1,z.2.2.2.2.2)):=by kernel_rfl
theorem Xb:Oj (JX 6842 ZJ) 3 (dP 1 afp (dP 1 (dS (JX 6842 ZJ) 2 (dP 1 (dI .i64) (dI .i64))) (dS (JX 6842 ZJ) 2 (dP 1 (dI .i64) (dS (JX 6842 ZJ) 2 (dP 1 (dI .i64) (dI .i64))))))) (.sl 4519 0 5 3)=some adR:=by kernel_rfl
theorem acX:adR.map (λy=>(y.2.1,y.2.2))=DD:=by kernel_rfl
theorem ZY (r:aav) (h:some ((ByteArray.mk #[115,110,97,112,115,104,111,116]),IL,DD)=some r):aY Tryz.prog 19 #[vS Cq] [Gb 0 (cellsOf Ig xO)] (λx:Value×Value×{z:List wZ // z.map zJ=r.2.2}=>Value.agg #[vS r.1,x.1,x.2.1]) (λx l=>l) (λx l=>Sl aS x.1 r.2.1::Sl aL x.2.1 x.2.2.1::PF (Value.agg #[vS r.1,x.1,x.2.1])::l):=by
 cases h;refine TE (gs:=gl) (LO:=λx:Value×Value×{z:List wZ // z.map zJ=DD}=>[Sl aS x.1 IL,Sl aL x.2.1 x.2.2.1,PF (Value.agg #[vS (ByteArray.mk #[115,110,97,112,115,104,111,116]),x.1,x.2.1])]) Ze (λT b=>WR HN adL me1 SU (.cons (TR (x:=Cq) (congrArg Prod.fst Ra).symm (congrArg Prod.snd Ra).symm) .nil) Z b) ?_;intro T b B w V a R g;have y:=g;obtain⟨f,rfl,c,_⟩:=g.agg_inv;obtain⟨C,f,rfl,m,c⟩:=c.of_cons;obtain⟨j,f,rfl,n,c⟩:=c.of_cons;obtain⟨k,rfl,o⟩:=c.one;obtain rfl:=adq m ZX;obtain⟨A,v,s⟩:=Do R a (iN.pair iN.str (iN.pair (iN.int .i64) (iN.pair (iN.int .i64) (iN.pair (iN.int .i64) (iN.pair (iN.int .i64) (iN.int .i64)))))) n ZZ;have e:A=IL:=Li (EL (λ_ _=>Qv) (EL Ld (EL Ld (EL Ld (EL Ld Ld))))) v;subst e;obtain⟨i,u,t⟩:=Do (r:=aL) R a (iN.pair iN.str (iN.pair (iN.sl R a (iN.pair (iN.int .i64) (iN.int .i64))) (iN.sl R a (iN.pair (iN.int .i64) (iN.sl R a (iN.pair (iN.int .i64) (iN.int .i64))))))) o Xb;have d:i.map zJ=DD:=by
  rw[<-acX,<-u,List.map_map];refine List.map_congr_left λx _=>?_;simp[zJ,Function.comp_def]
 exact⟨(j,k,⟨i,d⟩),rfl,zAx.2 ⟨s,zAx.2 ⟨t,zAx.2 ⟨(⟨B,fW.hd R a,y⟩),λq p=>absurd p List.not_mem_nil⟩⟩⟩⟩
theorem aaM:okV ZJ (KF IN gp0 4000 120 [mg1] (JX 6842 ZJ))=true:=by kernel_rfl
theorem Ee (a:Nat) {b:ByteArray} (r:aav) (h:mO a b=some r):aY Tryz.prog 19 #[vS b] [Gb 0 (cellsOf Ig xO)] (λx:Value×Value×{z:List wZ // z.map zJ=r.2.2}=>Value.agg #[vS r.1,x.1,x.2.1]) (λx l=>l) (λx l=>Sl aS x.1 r.2.1::Sl aL x.2.1 x.2.2.1::PF (Value.agg #[vS r.1,x.1,x.2.1])::l):=by
 unfold mO at h;by_cases c:b=Cq
 ·subst c;exact ZY r ((if_pos Z).symm.trans h)
 rw[if_neg c]at h;cases h
theorem QZ (f:Nat):mO f Cq=some ((ByteArray.mk #[115,110,97,112,115,104,111,116]),IL,DD):=by
 unfold mO;exact if_pos Z
def Cp (fuel:Nat) (a:ByteArray×List (ByteArray×Int×Int×Int×Int×Int)×List (wZ)):Option Bool:=some true
theorem MA (a:Nat) {b:ByteArray×List (ByteArray×Int×Int×Int×Int×Int)×List (wZ)} (d f:Value) (r:Bool) (h:Cp a b=some r):
  aY Tryz.prog 120 #[Value.agg #[vS b.1,d,f]] [Sl aS d b.2.1,Sl aL f b.2.2,PF (Value.agg #[vS b.1,d,f])] (λx:Unit=>vB (r)) (λx l=>l) (λ_ l=>l):=by
 cases h;intro w S z;have g:Calls Tryz.prog 120 #[Value.agg #[vS b.1,d,f]] w λe o=>e = .returned (.bool true)∧NN w o:=by
  rcases z _ (zAl (i:=2) rfl)with v
  ·refine WK (fuel:=4000) alj UD ?_ v;obtain⟨p,n,s⟩:=ZR aaM;rw[Ho (G:=gp0) HN]at n;exact⟨p,n,s⟩
 refine g.mono ?_;rintro e o ⟨rfl,c⟩;exact⟨(),rfl,⟨c.os,c.tape,c.output,c.size,λk t _=>c.block k t⟩,λ_ _=>False,⟨λi m u=>by simp at u,λi k h=>h.elim,λi j k h=>h.elim⟩,λq y=>by simp at y⟩
end Go.Proofs.YtlkhndebimcbbaaGreatDoor
namespace Go.Proofs.YtlkhndebimcbbaaGreatDoor
open Go Go.Sx
abbrev ai_:=Fi
abbrev PRG:=ByteArray×(List ai_)×(List wZ)
abbrev GRF:=List Int×fV
abbrev SCN:=PRG×GRF×Int×bF
abbrev WLK:=SCN×bF×Int×fZ
inductive E where
 |lf (o a:Int)
 |un (o:Int) (x:E)
 |ag (o:Int) (x:E)
 |bi (o:Int) (x y:E)
 |ite (x y z:E)
def E.ts:E->fZ
 |lf o a=>[(o,a)]
 |un o x=>(o,0)::x.ts
 |ag o x=>(o,0)::x.ts
 |bi o x y=>(o,0)::(x.ts++y.ts)
 |ite x y z=>(43,0)::(x.ts++(y.ts++z.ts))
def E.depth:E->Nat
 |lf _ _=>1
 |un _ x=>x.depth+1
 |ag _ x=>x.depth+1
 |bi _ x y=>max x.depth y.depth+1
 |ite x y z=>max x.depth (max y.depth z.depth)+1
def E.arOk:E->Bool
 |lf o _=>decide (1<=o)&&decide (o<=17)
 |un o x=>decide (18<=o)&&decide (o<=19)&&x.arOk
 |ag o x=>decide (20<=o)&&decide (o<=29)&&x.arOk
 |bi o x y=>decide (30<=o)&&decide (o<=42)&&x.arOk&&y.arOk
 |ite x y z=>x.arOk&&y.arOk&&z.arOk
theorem UB {b:Type} [Inhabited b] {T a rest:List b} {x:b} {k:Nat} (c:T=a++x::rest) (d:a.length=k):at' T (k:Int)=x:=by
 subst c;exact Wn a rest x k d
theorem fM {k:Nat} (h:k<1000000):wI .i64 ((k:Int)+1)=((k+1:Nat):Int):=by rw[wr (by omega) (by omega)];rfl
theorem Yb (f:Nat) {o:Int} (a:1<=o) (b:o<=43):yL f o=some (if o<=17 then 0 else if o<=29 then 1 else if o<=42 then 2 else 3):=by
 unfold yL Ad;rw[if_neg (by omega)];simp only[zA3];rw[if_neg (by omega)];split
 ·rfl
 ·split
  ·rfl
  ·split<;>rfl
theorem YN {F:Nat} {T c rest:fZ} {t:gE} {k m a:Nat} {b:Nat} (d:T=c++t::rest) (g:c.length=k) (i:k<1000) (n:m<3000) (e:yL F t.1=some ((a:Nat):Int)) (f:a<=3) (j:m+a≠0):
  bI (mF F T) (b+1) ((k:Int),(m:Int))=if m+a=1 then some (((k+1:Nat):Int))else bI (mF F T) b (((k+1:Nat):Int),((m+a - 1:Nat):Int)):=by
 have l:k<T.length:=by rw[d];simp;omega
 show mF F T ((k:Int),(m:Int)) (bI (mF F T) b)=_;unfold mF;dsimp only;rw[if_pos (by omega),cB (by omega),UB d g,bD e,if_neg (by omega),wr (x:=((a:Nat):Int) - 1) (by omega) (by omega),wr (by omega) (by omega),fM (by omega)];by_cases h:m+a=1
 ·rw[if_pos h,if_pos (by omega)]
 ·rw[if_neg h,if_neg (by omega)];have:(m:Int)+((a:Int) - 1)=((m+a - 1:Nat):Int):=by omega
  rw[this]
theorem acm (F:Nat) (T:fZ) (H:T.length<=900):∀(e:E),e.arOk=true->∀(c k m:Nat) (d b:fZ),T=d++(e.ts++b)->d.length=k->1<=m->m+2*(e.ts++b).length<=1900->e.ts.length<=c->
  bI (mF F T) c ((k:Int),(m:Int))=if m=1 then some (((k+e.ts.length:Nat):Int))else bI (mF F T) (c - e.ts.length) (((k+e.ts.length:Nat):Int),((m - 1:Nat):Int)):=by
 have r:∀{t:gE} {l b d:fZ} {c k m:Nat},T=d++((t::l)++b)->d.length=k->(t::l).length<=c->1<=t.1->t.1<=43->1<=m->m+2*((t::l)++b).length<=1900->∀a:Nat,(if t.1<=17 then 0 else if t.1<=29 then 1 else if t.1<=42 then 2 else 3:Int)=a->a<=3->∃f,c=f+1∧
   bI (mF F T) c ((k:Int),(m:Int))=if m+a=1 then some (((k+1:Nat):Int))else bI (mF F T) f (((k+1:Nat):Int),((m+a - 1:Nat):Int)):=by
  intro t l b d c k m n p q v w i j a I B;have A:=congrArg List.length n;simp only[zAi,zAh]at A j q;obtain⟨f,rfl⟩:∃f,c=f+1:=⟨c - 1,by omega⟩
  exact⟨f,rfl,YN (rest:=l++b) (by simpa using n) p (by omega) (by omega) (by rw[Yb F v w,I]) B (by omega)⟩
 intro e
 induction e with
 |lf o a=>
  intro g c k m d b n p i j q;simp only[E.arOk,zA6,zA3]at g;obtain⟨f,rfl,h⟩:=r (t:=(o,a)) (l:=[]) n p q (by dsimp only;omega) (by dsimp only;omega) i j 0 (by rw[if_pos (by dsimp only;omega)];rfl) (by omega);rw[h];rfl
 |un o x C=>
  intro g c k m d b n p i j q;simp only[E.arOk,zA6,zA3]at g;obtain⟨f,rfl,h⟩:=r (t:=(o,0)) (l:=x.ts) n p q (by dsimp only;omega) (by dsimp only;omega) i j 1 (by rw[if_neg (by dsimp only;omega),if_pos (by dsimp only;omega)];rfl) (by omega);simp only[E.ts,zAh]at q j ⊢;rw[h,if_neg (by omega)];have:=C g.2 f (k+1) m (d++[(o,0)]) b (by rw[n];simp[E.ts]) (by simp[p]) i (by simp at j ⊢;omega) (by omega);rw[show m+1 - 1=m by omega,this,show k+1+x.ts.length=k+(x.ts.length+1) by omega,show f+1 - (x.ts.length+1)=f - x.ts.length by omega]
 |ag o x C=>
  intro g c k m d b n p i j q;simp only[E.arOk,zA6,zA3]at g;obtain⟨f,rfl,h⟩:=r (t:=(o,0)) (l:=x.ts) n p q (by dsimp only;omega) (by dsimp only;omega) i j 1 (by rw[if_neg (by dsimp only;omega),if_pos (by dsimp only;omega)];rfl) (by omega);simp only[E.ts,zAh]at q j ⊢;rw[h,if_neg (by omega)];have:=C g.2 f (k+1) m (d++[(o,0)]) b (by rw[n];simp[E.ts]) (by simp[p]) i (by simp at j ⊢;omega) (by omega);rw[show m+1 - 1=m by omega,this,show k+1+x.ts.length=k+(x.ts.length+1) by omega,show f+1 - (x.ts.length+1)=f - x.ts.length by omega]
 |bi o x y s u=>
  intro g c k m d b n p i j q;simp only[E.arOk,zA6,zA3]at g;obtain⟨f,rfl,h⟩:=r (t:=(o,0)) (l:=x.ts++y.ts) n p q (by dsimp only;omega) (by dsimp only;omega) i j 2 (by rw[if_neg (by dsimp only;omega),if_neg (by dsimp only;omega),if_pos (by dsimp only;omega)];rfl) (by omega);simp only[E.ts,zAh,zAi]at q j ⊢;rw[h,if_neg (by omega)];have v:=s g.1.2 f (k+1) (m+1) (d++[(o,0)]) (y.ts++b) (by rw[n];simp[E.ts]) (by simp[p]) (by omega) (by simp at j ⊢;omega) (by omega);have w:=u g.2 (f - x.ts.length) (k+1+x.ts.length) m (d++((o,0)::x.ts)) b (by rw[n];simp[E.ts]) (by simp[p];omega) (by omega) (by simp at j ⊢;omega) (by omega);rw[show m+2 - 1=m+1 by omega,v,if_neg (by omega),show m+1 - 1=m by omega,w,show k+1+x.ts.length+y.ts.length=k+(x.ts.length+y.ts.length+1) by omega,show f+1 - (x.ts.length+y.ts.length+1)=f - x.ts.length - y.ts.length by omega]
 |ite x y z s u D=>
  intro g c k m d b n p i j q;simp only[E.arOk,zA6,zA3]at g;obtain⟨f,rfl,h⟩:=r (t:=(43,0)) (l:=x.ts++(y.ts++z.ts)) n p q (by decide) (by decide) i j 3 Z (by omega);simp only[E.ts,zAh,zAi]at q j ⊢;rw[h,if_neg (by omega)];have v:=s g.1.1 f (k+1) (m+2) (d++[(43,0)]) (y.ts++z.ts++b) (by rw[n];simp[E.ts]) (by simp[p]) (by omega) (by simp at j ⊢;omega) (by omega);have w:=u g.1.2 (f - x.ts.length) (k+1+x.ts.length) (m+1) (d++((43,0)::x.ts)) (z.ts++b) (by rw[n];simp[E.ts]) (by simp[p];omega) (by omega) (by simp at j ⊢;omega) (by omega);have G:=D g.2 (f - x.ts.length - y.ts.length) (k+1+x.ts.length+y.ts.length) m (d++((43,0)::(x.ts++y.ts))) b (by rw[n];simp[E.ts]) (by simp[p];omega) (by omega) (by simp at j ⊢;omega) (by omega);rw[show m+3 - 1=m+2 by omega,v,if_neg (by omega),show m+2 - 1=m+1 by omega,w,if_neg (by omega),show m+1 - 1=m by omega,G,show k+1+x.ts.length+y.ts.length+z.ts.length=k+(x.ts.length+(y.ts.length+z.ts.length)+1) by omega,show f+1 - (x.ts.length+(y.ts.length+z.ts.length)+1)=f - x.ts.length - y.ts.length - z.ts.length by omega]
theorem afv (F:Nat) (e:E) (d:e.arOk=true) {T b a:fZ} {k:Nat} (f:T=b++(e.ts++a)) (i:b.length=k) (j:T.length<=800) (h:e.ts.length<=F):Dz F T (k:Int)=some (((k+e.ts.length:Nat):Int)):=by
 have g:1<=e.ts.length:=by cases e<;>simp[E.ts]
 have c:=congrArg List.length f;simp only[zAi]at c;unfold Dz Ci;rw[if_neg (by omega)];simp only[zA3];rw[if_neg (by omega)];have:=acm F T (by omega) e d F k 1 b a f i (by omega) (by simp;omega) h;rw[if_pos Z]at this;exact this
def Bv (b:Bool):Int:=if b then 1 else 0
theorem vM (f:Nat) (b:Bool):jK f b=some (Bv b):=by cases b<;>rfl
theorem FJ {a:Type} [Inhabited a] {l:List a} {k:Nat} (h:k<l.length):l.take (k+1)=l.take k++[at' l (k:Int)]:=by
 rw[List.take_add_one,zA0 h,gG,zA1,zA0 h];rfl
theorem lX {a:Type} [Inhabited a] {l:List a} {k:Nat} (h:k<l.length):at' l (k:Int)=l[k]:=by
 rw[gG,zA1,zA0 h];rfl
theorem HA {p:Nat->Prop}:∀(n:Nat),p n->∃m,m<=n∧p m∧∀j,j<m->¬p j:=by
 intro n
 induction n using Nat.strongRecOn with
 | _ n ih =>
  intro h;by_cases d:∃m,m<n∧p m
  ·obtain⟨m,e,f⟩:=d;obtain⟨k,a,b,c⟩:=ih m e f;exact⟨k,by omega,b,c⟩
  ·exact⟨n,zAf n,h,λj g i=>d ⟨j,g,i⟩⟩
theorem Vm {g:Type} [DecidableEq g]:∀(c b:List g),c.Nodup->(∀x∈c,x∈b)->c.length<=b.length
 | [],b,_,_=>Nat.zero_le _
 |a::c,b,h,hs=>by
  have d:=hs a zA7;have h:=zB8.1 h;have:=Vm c (b.erase a) h.2 (λx f=>(List.mem_erase_of_ne (fun(e:x=a)=>h.1 (by rw[<-e];exact f))).2 (hs x (zAe _ f)));rw[List.length_erase_of_mem d]at this;have i:0<b.length:=List.length_pos_of_mem d;simp only[zAh];omega
def nz (x:Int):Bool:=decide (x≠0)
theorem YC (f:Nat) (l:aR) (h:l.length<f) (e:l.length<=1000):rH f l=some ((l.countP nz:Nat):Int):=by
 unfold rH;have:=eL (step:=sE l) (K:=some ((l.countP nz:Nat):Int)) l.length (λk=>(((l.take k).countP nz:Nat),(k:Int))) (λk b c=>by
  have d:(l.take k).countP nz<=k:=zB5 List.countP_le_length (by simp;omega);unfold sE vD;dsimp only;rw[if_pos (by omega),cB (by omega),FJ c,List.countP_append,fM (by omega),fM (by omega)];by_cases a:at' l (k:Int)=0
  ·rw[if_neg (by simpa using a)];simp[nz,a]
  ·rw[if_pos a];simp[nz,a]) (λb=>by
  unfold sE zT;dsimp only;rw[if_neg (by omega),List.take_length]) f h
 exact this
theorem Ja (f:Nat) (l:aR) (x:Int) (h:l.length<f) (t:l.length<=1000):sR f l x=some (decide (x∈l)):=by
 have q:∃i:Int,qU f l x=some i∧(0<=i↔x∈l):=by
  by_cases b:x∈l
  ·obtain⟨i,r,o⟩:=List.mem_iff_getElem.1 b;have a:∃i,i<l.length∧at' l (i:Int)=x∧∀j,j<i->at' l (j:Int)≠x:=by
    obtain⟨m,d,c,s⟩:=HA (p:=λi=>at' l (i:Int)=x) i (by rw[lX r,o]);exact⟨m,by omega,c,s⟩
   obtain⟨i,r,d,c⟩:=a;refine⟨i,?_,iff_of_true (by omega) b⟩
   unfold qU;exact eL (step:=kM l x) (K:=some (i:Int)) i (λk=>(k:Int)) (λk n g=>by
    unfold kM;rw[if_pos (by omega),cB (by omega),if_neg (λe=>c k g e.symm),fM (by omega)]) (λn=>by
    unfold kM;rw[if_pos (by omega),cB (by omega),if_pos d.symm]) f (by omega)
  ·refine⟨-1,?_,iff_of_false (by omega) b⟩
   unfold qU;exact eL (step:=kM l x) (K:=some (-1)) l.length (λk=>(k:Int)) (λk n g=>by
    unfold kM;rw[if_pos (by omega),cB (by omega),if_neg (λe=>b (by rw[e,lX g];exact List.getElem_mem g)),fM (by omega)]) (λn=>by
    unfold kM wK;rw[if_neg (by omega)]) f h
 obtain⟨i,d,c⟩:=q;unfold sR;rw[bD d];by_cases b:x∈l
 ·rw[zAc b,zAc (c.2 b)]
 ·rw[zA8 b,zA8 (λe=>b (c.1 e))]
def rE (l:aR):Int:=match l.findIdx? nz with
 |some i=>(i:Int)
 |none=> -1
theorem tI {l:aR} {i:Nat} (a:i<l.length) (b:at' l (i:Int)≠0) (c:∀j,j<i->at' l (j:Int)=0):rE l=i:=by
 have:l.findIdx? nz=some i:=by
  rw[List.findIdx?_eq_some_iff_getElem];refine⟨a,by rw[<-lX a];simpa [nz]using b,λj d=> ?_⟩
  have:=c j d;rw[lX (by omega)]at this;simp[nz,this]
 unfold rE;rw[this]
theorem Cb {l:aR} (h:∀j,j<l.length->at' l (j:Int)=0):rE l = -1:=by
 have:l.findIdx? nz=none:=by
  rw[List.findIdx?_eq_none_iff];intro x b;obtain⟨i,a,rfl⟩:=List.mem_iff_getElem.1 b;have:=h i a;rw[lX a]at this;simp[nz,this]
 unfold rE;rw[this]
theorem Za (f:Nat) (l:aR) (h:l.length<f) (t:l.length<=1000):nT f l (λq=>pO f q)=some (rE l):=by
 unfold nT;by_cases a:∃i,i<l.length∧at' l (i:Int)≠0
 ·obtain⟨i,s,o⟩:=a;obtain⟨m,r,n,b⟩:=HA (p:=λi=>at' l (i:Int)≠0) i o;have b:∀j,j<m->at' l (j:Int)=0:=λj d=>zAk.1 (b j d);rw[tI (by omega) n b];exact eL (step:=gT l _) (K:=some (m:Int)) m (λk=>(k:Int)) (λk c g=>by
   unfold gT pO;rw[if_pos (by omega),cB (by omega),bD Z,if_neg (by simp[b k g]),fM (by omega)]) (λc=>by
   unfold gT pO;rw[if_pos (by omega),cB (by omega),bD Z,if_pos (by simpa using n)]) f (by omega)
 ·have a:∀j,j<l.length->at' l (j:Int)=0:=λj d=>zAk.1 λe=>a ⟨j,d,e⟩;rw[Cb a];exact eL (step:=gT l _) (K:=some (-1)) l.length (λk=>(k:Int)) (λk c g=>by
   unfold gT pO;rw[if_pos (by omega),cB (by omega),bD Z,if_neg (by simp[a k g]),fM (by omega)]) (λc=>by
   unfold gT qC;rw[if_neg (by omega)]) f h
def AJ (l:aR):Int:=l.foldl min 1073741824
theorem afX (f:Nat) (l:aR) (h:l.length<f) (c:l.length<=1000):bI (uG l) f ((1073741824:Int),(0:Int))=some (AJ l):=by
 exact eL (step:=uG l) (K:=some (AJ l)) l.length (λk=>((l.take k).foldl min 1073741824,(k:Int))) (λk a b=>by
  unfold uG;dsimp only;rw[if_pos (by omega),cB (by omega),FJ b,List.foldl_append,fM (by omega)];rfl) (λa=>by
  unfold uG Ba;dsimp only;rw[if_neg (by omega),List.take_length];rfl) f h
theorem OF {l:aR} {x:Int} (h:x∈l):AJ l<=x:=by
 have c:∀(l:aR) (a:Int),l.foldl min a<=a∧∀x∈l,l.foldl min a<=x:=by
  intro l
  induction l with
  |nil=>intro a;exact⟨Int.le_refl a,λx b=>by cases b⟩
  |cons y l e=>
   intro a;obtain⟨f,d⟩:=e (min a y);refine⟨by simp only[List.foldl_cons];omega,λx b=> ?_⟩
   rcases zAo.1 b with rfl|b
   ·simp only[List.foldl_cons];omega
   ·exact d x b
 exact(c l _).2 x h
theorem Ln (l:aR):AJ l=1073741824∨AJ l∈l:=by
 have b:∀(l:aR) (a:Int),l.foldl min a=a∨l.foldl min a∈l:=by
  intro l
  induction l with
  |nil=>intro a;exact .inl Z
  | cons y l ih =>
   intro a;rcases ih (min a y)with h|h
   ·simp only[List.foldl_cons,h];rcases Int.le_total a y with q|q
    ·left;omega
    ·right;rw[show min a y=y by omega];exact zA7
   ·right;exact zAe _ h
 exact b l _
def QL (l:aR):Nat->Nat->Nat
 |0,k=>k
 |f+1,k=>if((k:Nat):Int)∈l then QL l f (k+1)else k
def TF (l:aR):Nat:=QL l (l.length+1) 0
theorem ZI (l:aR):((TF l:Nat):Int)∉l∧(∀j,j<TF l->((j:Nat):Int)∈l)∧TF l<=l.length:=by
 have key:∀(f k:Nat),(∀j,j<k->((j:Nat):Int)∈l)->(∀j,j<QL l f k->((j:Nat):Int)∈l)∧(QL l f k=k+f∨((QL l f k:Nat):Int)∉l):=by
  intro f
  induction f with
  |zero=>intro k h;exact⟨h,.inl Z⟩
  | succ f ih =>
   intro k h;by_cases hk:((k:Nat):Int)∈l
   ·have:=ih (k+1) (λj hj=>by
     rcases zAq j k with q|q
     ·exact h j q
     ·rw[show j=k by omega];exact hk)
    simp only[QL,if_pos hk];exact⟨this.1,this.2.imp (λe=>by omega) id⟩
   ·simp only[QL,if_neg hk];exact⟨h,.inr hk⟩
 have hle:∀m,(∀j,j<m->((j:Nat):Int)∈l)->m<=l.length:=λm h=>by
  have:=Vm ((List.range m).map λj=>((j:Nat):Int)) l (by
   rw[List.nodup_iff_pairwise_ne,List.pairwise_map];exact(List.nodup_iff_pairwise_ne.1 List.nodup_range).imp (λh e=>h (by omega))) (λx hx=>by
   obtain⟨j,hj,rfl⟩:=zAw.1 hx;exact h j (zAg.1 hj))
  simpa using this
 obtain⟨h1,h2⟩:=key (l.length+1) 0 (λj hj=>by omega);have h3:=hle _ h1;refine⟨?_,h1,h3⟩
 rcases h2 with h2|h2
 ·have:QL l (l.length+1) 0<=l.length:=h3;omega
 ·exact h2
theorem afW (f:Nat) (l:aR) (h:l.length+2<f) (hl:l.length<=900):BD f l=some ((TF l:Nat):Int):=by
 obtain⟨h1,h2,h3⟩:=ZI l;unfold BD;exact eL (step:=An f l) (K:=some ((TF l:Nat):Int)) (TF l) (λk=>(k:Int)) (λk ag hk=>by
  unfold An;rw[bD (Ja f l (k:Int) (by omega) (by omega)),if_pos (by simpa using h2 k hk),fM (by omega)]) (λag=>by
  unfold An Ca;rw[bD (Ja f l _ (by omega) (by omega)),if_neg (by simpa using h1)]) f (by omega)
def Ru (l:aR):Int:=l.foldl (λa x=>wI .i64 (a+x)) 0
theorem ago (f:Nat) (l:aR) (h:l.length<f) (c:l.length<=1000):bI (uH f l) f ((0:Int),(0:Int))=Dr f (Ru l):=by
 refine(eL (step:=uH f l) l.length (λk=>(Ru (l.take k),(k:Int))) (λk a b=> ?_) (λa=> ?_) f h).trans Z
 ·unfold uH;dsimp only;rw[if_pos (by omega),cB (by omega),fM (by omega),FJ b];unfold Ru;rw[List.foldl_append];rfl
 ·unfold uH;dsimp only;rw[if_neg (by omega),List.take_length]
def UW (o:Int) (l:aR):Int:=
 if o=20 then Bv (l.all nz)else if o=21 then Bv (l.any nz)else if o=22 then((l.countP nz:Nat):Int)else if o=23 then rE l else if o=24 then AJ l else if o=26 then max (-1073741824) (min (Ru l) 1073741824)else((TF l:Nat):Int)
theorem acx (f:Nat) (o:Int) (l:aR) (hf:40<=f) (hl:l.length<=24) (ho:o=20∨o=21∨o=22∨o=23∨o=24∨o=26∨o=27):Cc f o l=some (UW o l):=by
 have hc:=YC f l (by omega) (by omega);unfold Cc;rcases ho with rfl|rfl|rfl|rfl|rfl|rfl|rfl
 ·rw[if_pos Z,bD hc,bD (vM f _),UW,if_pos Z];have:(decide (((l.countP nz:Nat):Int)=(l.length:Int)))=l.all nz:=by
   rw[Bool.eq_iff_iff];simp[List.countP_eq_length,Int.ofNat_inj]
  rw[this]
 ·rw[if_neg (by decide),if_pos Z,bD hc,bD (vM f _),UW,if_neg (by decide),if_pos Z];have:(decide ((0:Int)<((l.countP nz:Nat):Int)))=l.any nz:=by
   rw[Bool.eq_iff_iff,zA3,List.any_eq_true,show((0:Int)<((l.countP nz:Nat):Int))↔0<l.countP nz by omega,List.countP_pos_iff]
  rw[this]
 ·rw[if_neg (by decide),if_neg (by decide),if_pos Z,bD hc];rfl
 ·rw[if_neg (by decide),if_neg (by decide),if_neg (by decide),if_pos Z,bD (Za f l (by omega) (by omega))];rfl
 ·rw[if_neg (by decide),if_neg (by decide),if_neg (by decide),if_neg (by decide),if_pos Z,afX f l (by omega) (by omega)];rfl
 ·rw[if_neg (by decide),if_neg (by decide),if_neg (by decide),if_neg (by decide),if_neg (by decide),if_neg (by decide),if_pos Z,ago f l (by omega) (by omega)];rfl
 ·rw[if_neg (by decide),if_neg (by decide),if_neg (by decide),if_neg (by decide),if_neg (by decide),if_neg (by decide),if_neg (by decide),if_pos Z,bD (afW f l (by omega) (by omega))];rfl
end Go.Proofs.YtlkhndebimcbbaaGreatDoor
namespace Go.Proofs.YtlkhndebimcbbaaGreatDoor
open Go.Sx
def uE  (a:aR):Option aR:=
 some (a)
def uF (a:lL) (c:rZ->Option aR) (b:aR):Option aR:=
 c ((wI .i64 (a.1+(1:Int))),b)
def qM (d:cD) (a:lL) (e:rZ->Option aR) (b:lL) (c:rZ->Option aR):Option aR:=
 if b.1<((at' d.2 a.1).length:Int)then(ck (0<=b.1∧b.1<((at' d.2 a.1).length:Int)) (ck (0<=a.1∧a.1<(b.2.length:Int)) (ck (0<=((at' (at' d.2 a.1) b.1).1)) (ck (0<=a.1∧a.1<(b.2.length:Int)) (c ((wI .i64 (b.1+(1:Int))),(List.set b.2 (Int.toNat a.1) (Oa .u32 (at' b.2 a.1) (Dk .u32 (1:Int) ((at' (at' d.2 a.1) b.1).1))))))))))else(uF a e (b.2))
def lE (U:Nat) (c:cD) (a:lL) (b:rZ->Option aR):Option aR:=
 if a.1<(c.2.length:Int)then(ck (0<=a.1∧a.1<(c.2.length:Int)) (bI (qM c a b) U ((0:Int),a.2)))else(uE  (a.2))
def oQ (U:Nat) (a:cD):Option aR:=
 ck (0<=(a.2.length:Int)∧(a.2.length:Int)<=1099511627) (bI (lE U a) U ((0:Int),(List.replicate (Int.toNat (a.2.length:Int)) (0:Int))))
theorem aeY:aW Tryz.prog 76:=Tryz.call76
theorem Jy (U:Nat) {d:cD} (v:Value)  (j:Value)  (y:kA) (r:aR) (h:oQ U d=some r):
  aY Tryz.prog 76 #[Value.agg #[v,j]] [Sl bN v d.1,S2 bA j y d.2] (λx:Value=>x) (λx l=>Ar qD x r::l) (λ_ l=>l):=by
 refine aY.of Tryz.func76 Z Tryz.ntmps76 Z λc=>?_;refine aX<|aH (aO.box (cs:=[v,j]) Z Z) Z λD=>aD Z<|aN<|aX<|bX Z<|dQ 0 Z<|aB (gU Z (aE.fact 1 Z) Z) Z<|cT h λB h=>aH (mL (e:=qD) (0:Int) Z Z Z Z B Z Z Z) Z λi=>aD Z<|aN<|aK<|dW (λk=>uE  k=some r) (λk w=>[(3,i)]) (λk w=>[Ar qD i k]) ?_ ?_
 ·refine aX<|bX Z<|dQ 1 Z<|aB (gU Z (aE.fact 1 Z) Z) Z<|aA Z<|aN<|aT<|dX (lE U d) (λa m=>[(3,i),(13,j),(14,vI (d.2.length:Int)),(15,vI (a.1))]) (λa m=>[Ar qD i a.2]) ((0:Int),(List.replicate (Int.toNat (d.2.length:Int)) (0:Int))) () h SF (a_.ix [0] Z Z) ?_;intro t a m h;refine aX<|cM Z<|aN<|aK ?_;refine fD h Z (λh=>?_) λh=>?_
  ·refine cL<|aK<|dW (λg=>uF a (bI (lE U d) t) g=some r) (λg n=>[(3,i),(13,j),(14,vI (d.2.length:Int)),(15,vI (a.1))]) (λg n=>[Ar qD i g]) ?_ ?_
   ·refine aT<|aX<|aA Z<|cT h λf h=>aB (cC Z Z (aE.fact 1 Z) Z Z f) Z<|aB (b_ Z (aE.fact 1 Z) Z Z f) Z<|aD Z<|aD Z<|aN<|aX<|aA Z<|aB (fX Z (zBb (aE.fact 1 Z) f.1 f.2) Z) Z<|aA Z<|aN<|aT<|dX (qM d a (bI (lE U d) t)) (λb o=>[(3,i),(4,vI (a.1)),(13,j),(14,vI (d.2.length:Int)),(15,vI (a.1)),(20,(at' y a.1).1),(21,vI ((at' d.2 a.1).length:Int)),(22,vI (b.1))]) (λb o=>[Ar qD i b.2]) ((0:Int),a.2) () h SF (a_.refl _) ?_;intro C b o h;refine aX<|cM Z<|aN<|aK ?_;refine fD h Z (λh=>?_) λh=>?_
    ·refine cL<|aK<|aT<|aX<|cT h λp h=>aB (aZ Z Z (zBb (aE.fact 1 Z) f.1 f.2) Z Z p) Z<|aB (iX (cs:=[vI ((at' (at' d.2 a.1) b.1).1),vI ((at' (at' d.2 a.1) b.1).2)]) Z (zBb (aE.fact 1 Z) f.1 f.2) bS Z Z Z Z p) Z<|aH (aO.alloc (cs:=VO) Z Z) Z λA=>bQ 0 (vs:=[vI ((at' (at' d.2 a.1) b.1).1),vI ((at' (at' d.2 a.1) b.1).2)]) Z Z Z Z Z Z<|aN ?_;refine JR.start [0,0,3,7,0,16,48,127,255,511] 7 mixedOrders (by decide +kernel) ?_;refine zBd (by exact rfl) ?_;refine bG Z<|bG Z<|cT h λq h=>bJ Z (a_.cons 1 Z .nil) .nil (aZ Z Z (bB (aE.res 0 Z) wS) Z Z q) aM.z<|bJ Z (a_.cons 1 Z .nil) .nil (bR Z (bB (aE.res 0 Z) wS) Z Z Z Im q) aM.z<|dB Z<|iZ 0 Z<|cT h λu h=>jD Z (Qc Z Z u)<|bO 7 Z Z<|aB (abl Z Z) Z<|cT h λs h=>aB (aZ Z Z (bB (aE.res 1 Z) wS) Z Z s) Z<|vA 1 (Oa .u32 (at' b.2 a.1) (Dk .u32 (1:Int) ((at' (at' d.2 a.1) b.1).1))) s Z Z Z Z Z Z Z<|eM<|mN<|aQ<|cJ Z<|aA Z<|aN ?_;exact lS ((wI .i64 (b.1+(1:Int))),(List.set b.2 (Int.toNat a.1) (Oa .u32 (at' b.2 a.1) (Dk .u32 (1:Int) ((at' (at' d.2 a.1) b.1).1))))) () h SF (a_.ix [1] Z Z) (aG.refl _ _)
    refine pH<|d_<|d_<|u_<|mN ?_;exact gJ (b.2) () h SF Z
   intro g n h;unfold uF at h;refine aQ<|cJ Z<|aA Z<|aN ?_;exact xR ((wI .i64 (a.1+(1:Int))),g) () h SF Z
  refine e_ ?_;exact gJ (a.2) () h SF Z
 intro k w h;unfold uE at h;refine aX<|aA Z<|aD Z<|aN<|aV ?_;cases h;exact fP (i) Z Z (RV.tmp Z) (a_.refl _) aG.nil
end Go.Proofs.YtlkhndebimcbbaaGreatDoor
namespace Go.Proofs.YtlkhndebimcbbaaGreatDoor
open Go Go.Sx
structure Wb (m k:Nat):Prop where
 bit:m.testBit k=true
 low:∀j,j<k->m.testBit j=false
theorem OC {m:Nat} (h:m≠0):∃k,Wb m k:=by
 obtain⟨i,c⟩:=Nat.exists_testBit_of_ne_zero h;obtain⟨k,_,a,b⟩:=HA (p:=λi=>m.testBit i=true) i c;exact⟨k,a,λj d=>by simpa using b j d⟩
theorem QY {m k:Nat} (h:Wb m k) (i:Nat):(m - 1).testBit i=if i<k then true else if i=k then false else m.testBit i:=by
 have b:m=2^(k+1)*(m / 2^(k+1))+2^k:=by
  refine Nat.eq_of_testBit_eq λi=> ?_;have a:2^k<2^(k+1):=Nat.pow_lt_pow_right (by omega) (by omega);rw[Nat.testBit_two_pow_mul_add _ a,zB0,Nat.testBit_div_two_pow];rcases zAz i k with q|q|q
  ·rw[if_pos (by omega),h.low i q,zA8 (by omega)]
  ·subst q;rw[if_pos (by omega),h.bit,zAc Z]
  ·rw[if_neg (by omega),show i - (k+1)+(k+1)=i by omega]
 have c:0<2^k:=Nat.pow_pos (by omega);have a:2^k - 1<2^(k+1):=by rw[Nat.pow_succ];omega
 have e:m - 1=2^(k+1)*(m / 2^(k+1))+(2^k - 1):=by omega
 rw[e,Nat.testBit_two_pow_mul_add _ a,Nat.testBit_two_pow_sub_one,Nat.testBit_div_two_pow];rcases zAz i k with q|q|q
 ·rw[if_pos (by omega),if_pos q,zAc q]
 ·subst q;rw[if_pos (by omega),if_neg (by omega),if_pos Z,zA8 (by omega)]
 ·rw[if_neg (by omega),if_neg (by omega),if_neg (by omega),show i - (k+1)+(k+1)=i by omega]
theorem alq {m:Nat} (b:m<4294967296) (a:m≠0):wI .u32 (0 - (m:Int))=((4294967296 - m:Nat):Int):=by
 rw[Fj];have:IntKind.u32.wrap (0 - (m:Int))=(0 - (m:Int))%4294967296:=rfl;rw[this];omega
theorem aiy {m:Nat} (b:m<4294967296) (a:m≠0):wI .u32 ((m:Int) - 1)=((m - 1:Nat):Int):=by
 rw[show(m:Int) - 1=((m - 1:Nat):Int) by omega,Fj,NJ _ (by omega)]
theorem afS {m k:Nat} (a:m<4294967296) (h:Wb m k):eK .u32 (m:Int) (wI .u32 (0 - (m:Int)))=((2^k:Nat):Int):=by
 have b:m≠0:=λe=>by have:=h.bit;rw[e]at this;simp at this
 have c:k<32:=Iq a h.bit;rw[alq a b,EC a (by omega)];congr 1;refine Nat.eq_of_testBit_eq λi=> ?_;rw[Nat.testBit_and,show 4294967296 - m=2^32 - ((m - 1)+1) by omega,Nat.testBit_two_pow_sub_succ (by omega),zB0,QY h];rcases zAz i k with q|q|q
 ·rw[h.low i q,zA8 (show¬k=i by omega)];rfl
 ·subst q;rw[h.bit,if_neg (by omega),if_pos Z,zAc c,zAc Z];rfl
 ·rw[if_neg (by omega),if_neg (by omega),zA8 (show¬k=i by omega)];cases m.testBit i<;>simp
theorem Tb {m k:Nat} (a:m<4294967296) (h:Wb m k):∃b:Nat,eK .u32 (m:Int) (wI .u32 ((m:Int) - 1))=(b:Int)∧b<4294967296∧∀i,b.testBit i=(m.testBit i&&decide (i≠k)):=by
 have c:m≠0:=λe=>by have:=h.bit;rw[e]at this;simp at this
 refine⟨m &&& (m - 1),by rw[aiy a c,EC a (by omega)],SO a,λi=> ?_⟩
 rw[Nat.testBit_and,QY h];rcases zAz i k with q|q|q
 ·rw[h.low i q];rfl
 ·subst q;simp
 ·rw[if_neg (by omega),if_neg (by omega)];have:decide (i≠k)=true:=zAc (by omega);rw[this];cases m.testBit i<;>rfl
theorem ags:∀k:Fin 32,((0:Int)<=tF .u32 (wI .u32 ((((2^k.val:Nat):Int))*125613361)) 27∧tF .u32 (wI .u32 ((((2^k.val:Nat):Int))*125613361)) 27<((32:Nat):Int))∧wI .i64 (at' xO (tF .u32 (wI .u32 ((((2^k.val:Nat):Int))*125613361)) 27))=(k.val:Int):=by decide +kernel
theorem adX (f:Nat) {m k:Nat} (a:m<4294967296) (h:Wb m k):kE f (m:Int)=some (k:Int):=by
 have d:m≠0:=λe=>by have:=h.bit;rw[e]at this;simp at this
 obtain⟨b,c⟩:=ags ⟨k,Iq a h.bit⟩;unfold kE;rw[if_neg (by omega),cB (by decide),afS a h,cB ⟨b,rfl⟩,c]
structure PK (g:GR) (r:aR):Prop where
 len:r.length=g.2.length
 at':∀v:Nat,v<g.2.length->∃m:Nat,Go.Sx.at' r (v:Int)=(m:Int)∧m<4294967296∧∀u,m.testBit u=true↔Db g v u
theorem afZ {g:GR} (I:VG g):∃r,oQ 1000 g=some r∧PK g r:=by
 have R:=I.n24;unfold oQ;rw[cB (by omega)];obtain⟨⟨a,r⟩,⟨y,B,C⟩,J⟩:=CM (step:=lE 1000 g) (K:=λz=>some z.2) g.2.length
  (λk z=>z.1=(k:Int)∧z.2.length=g.2.length∧∀v:Nat,v<g.2.length->∃m:Nat,Go.Sx.at' z.2 (v:Int)=(m:Int)∧m<4294967296∧∀u,m.testBit u=true↔v<k∧Db g v u) (λk z E M G=>by
  obtain⟨a,r⟩:=z;obtain⟨y,B,C⟩:=G;dsimp only at y B C;subst y;have O:=(I.node k M).deg;obtain⟨⟨b,U⟩,⟨s,d,c⟩,J⟩:=CM (step:=qM g ((k:Int),r) E) (K:=λz=>E (((k+1:Nat):Int),z.2)) (row g k).length
   (λj z=>z.1=(j:Int)∧z.2.length=g.2.length∧∀v:Nat,v<g.2.length->∃m:Nat,Go.Sx.at' z.2 (v:Int)=(m:Int)∧m<4294967296∧∀u,m.testBit u=true↔(v<k∧Db g v u)∨(v=k∧∃i,i<j∧(fQ (row g k) i).1=(u:Int))) (λj z F S H=>by
   obtain⟨b,q⟩:=z;obtain⟨s,d,c⟩:=H;dsimp only at s d c;subst s;obtain⟨w,V,x,N⟩:=I.port M S;obtain⟨m,T,l,t⟩:=c k M;refine⟨(((j+1:Nat):Int),q.set k (((m ||| 2^w:Nat)):Int)),⟨rfl,by simpa using d,λv f=> ?_⟩,?_⟩
   ·show∃P,Go.Sx.at' (q.set k _) (v:Int)=_∧_;rw[tE q k v _ (by omega)];by_cases e:v=k
    ·subst e;refine⟨_,if_pos Z,adQ l (Jl (by omega)),λu=> ?_⟩
     rw[Nat.testBit_or,zB0,zAr,t u,zA3];constructor
     ·rintro((h|⟨_,i,A,h⟩)|h)
      ·exact .inl h
      ·exact .inr ⟨rfl,i,by omega,h⟩
      ·exact .inr ⟨rfl,j,by omega,by rw[x,h]⟩
     ·rintro(h|⟨_,i,A,h⟩)
      ·exact .inl (.inl h)
      ·by_cases L:i=j
       ·subst L;right;rw[x]at h;omega
       ·exact .inl (.inr ⟨rfl,i,by omega,h⟩)
    ·obtain⟨P,n,o,p⟩:=c v f;refine⟨P,by rw[if_neg e];exact n,o,λu=> ?_⟩
     rw[p u];constructor
     ·rintro(h|⟨h,_⟩)
      ·exact .inl h
      ·exact absurd h e
     ·rintro(h|⟨h,_⟩)
      ·exact .inl h
      ·exact absurd h e
   ·unfold qM;dsimp only;rw[if_pos (show(j:Int)<((row g k).length:Int) by omega),cB (show 0<=(j:Int)∧(j:Int)<((row g k).length:Int) by omega),cB (by omega),show Go.Sx.at' (Go.Sx.at' g.2 (k:Int)) (j:Int)=fQ (row g k) j from rfl,x,cB (by omega),cB (by omega),T,SQ l (by omega),fM (by omega),zAd]) (λz F H=>by
   obtain⟨b,q⟩:=z;obtain⟨s,d,c⟩:=H;dsimp only at s d c;subst s;unfold qM uF;dsimp only;rw[if_neg (show¬((row g k).length:Int)<((row g k).length:Int) by omega),fM (by omega)]) 1000 ((0:Int),r) ⟨rfl,B,λv f=>by
    obtain⟨m,n,o,p⟩:=C v f;refine⟨m,n,o,λu=> ?_⟩
    rw[p u];constructor
    ·exact λh=> .inl h
    ·rintro(h|⟨_,i,A,_⟩)
     ·exact h
     ·omega⟩ (by omega)
  dsimp only at s d c;refine⟨(((k+1:Nat):Int),U),⟨rfl,d,λv f=> ?_⟩,?_⟩
  ·obtain⟨m,n,o,p⟩:=c v f;refine⟨m,n,o,λu=> ?_⟩
   rw[p u];constructor
   ·rintro(⟨Q,D⟩|⟨rfl,i,A,h⟩)
    ·exact⟨by omega,D⟩
    ·exact⟨by omega,i,A,h⟩
   ·rintro⟨Q,D⟩;by_cases e:v=k
    ·subst e;obtain⟨i,A,h⟩:=D;exact .inr ⟨rfl,i,A,h⟩
    ·exact .inl ⟨by omega,D⟩
  ·unfold lE;dsimp only;rw[if_pos (by omega),cB (by omega)];exact J) (λz E G=>by
  obtain⟨a,r⟩:=z;obtain⟨y,B,C⟩:=G;dsimp only at y;subst y;unfold lE uE;dsimp only;rw[if_neg (by omega)]) 1000 ((0:Int),List.replicate (Int.toNat (g.2.length:Int)) (0:Int)) ⟨rfl,by simp,λv f=>⟨0,by
   rw[zAd,lX (by simpa using f)];simp,by omega,λu=>by simp⟩⟩ (by omega)
 refine⟨r,J,B,λv f=> ?_⟩
 obtain⟨m,n,o,p⟩:=C v f;exact⟨m,n,o,λu=>by rw[p u];exact⟨λh=>h.2,λh=>⟨f,h⟩⟩⟩
def Sk (g:GR) (m:Nat):Prop:=∀i,m.testBit i=true->i<g.2.length
theorem Sk.lt {g:GR} (b:VG g) {m:Nat} (h:Sk g m):m<16777216:=by
 have a:=b.n24;refine zAs (Nat.lt_pow_two_of_testBit (n:=24) m λi d=> ?_) (zAf _);cases c:m.testBit i with
 |false=>rfl
 |true=>have:=h i c;omega
theorem ahN {m:Nat} (h:∀i,i<32->m.testBit i=false) (b:m<4294967296):m=0:=by
 refine Nat.eq_of_testBit_eq λi=> ?_;rw[Nat.zero_testBit];rcases zAq i 32 with q|q
 ·exact h i q
 ·cases a:m.testBit i with
  |false=>rfl
  |true=>have:=Iq b a;omega
theorem Tu {g:GR} (z:VG g) {r:aR} (y:PK g r) {t:Nat} (C:Sk g t) (n:∀v u,t.testBit v=true->t.testBit u=true->¬Db g v u) (F:Nat):∀(d s a b:Nat),s+d=32->b<4294967296->(∀i,i<s->b.testBit i=false)->(∀i,b.testBit i=true->t.testBit i=true)->d<a->
  bI (gY F r (t:Int)) a (b:Int)=some true:=by
 have J:=z.n24;have p:t<4294967296:=by have:=C.lt z;omega
 intro d
 induction d using Nat.strongRecOn with
 | _ d ih =>
  intro s a b P B o c O;obtain⟨a,rfl⟩:∃f,a=f+1:=⟨a - 1,by omega⟩
  show gY F r (t:Int) (b:Int) (bI _ a)=_;unfold gY kB;by_cases G:b=0
  ·rw[if_neg (by omega)]
  obtain⟨k,l⟩:=OC G;have w:=C k (c k l.bit);have K:s<=k:=by
   rcases zAq k s with q|q
   ·have:=l.bit;rw[o k q]at this;cases this
   ·exact q
  obtain⟨m,L,h,j⟩:=y.at' k w;rw[if_pos (by omega),bD (adX F B l),cB (by have:=y.len;omega),L,EC h p];have M:m &&& t=0:=by
   refine ahN (λi _=> ?_) (SO h);rw[Nat.testBit_and];cases H:m.testBit i with
   |false=>rfl
   |true=>
    cases I:t.testBit i with
    |false=>rfl
    |true=>exact absurd ((j i).1 H) (n k i (c k l.bit) I)
  rw[M,if_neg (by simp)];obtain⟨N,D,E,x⟩:=Tb B l;rw[D];have A:k<32:=by omega
  refine ih (32 - (k+1)) (by omega) (k+1) a N (by omega) E (λi n=> ?_) (λi n=> ?_) (by omega)
  ·rw[x];by_cases e:i=k
   ·simp[e]
   ·rw[l.low i (by omega)];rfl
  ·rw[x,zA6]at n;exact c i n.1
theorem Jt {g:GR} (a:VG g) {r:aR} (d:PK g r) {t:Nat} (c:Sk g t) (b:∀v u,t.testBit v=true->t.testBit u=true->¬Db g v u):iH 1000 r (t:Int)=some true:=
 Tu a d c b 1000 32 0 1000 t (by omega) (by have:=c.lt a;omega) (λi b=>by omega) (λi h=>h) (by omega)
theorem Qy {g:GR} (M:VG g) {r:aR} (T:PK g r) {W:Nat} (U:Sk g W) (F:Nat):∀(d s a b t:Nat),s+d=32->b<4294967296->t<4294967296->(∀i,i<s->b.testBit i=false)->(∀i,b.testBit i=true->W.testBit i=true)->(∀i,t.testBit i=true->W.testBit i=true)->(∀v u,t.testBit v=true->t.testBit u=true->¬Db g v u)->(W≠0->t≠0∨b=W)->d<a->
  ∃C:Nat,bI (eX F r) a ((b:Int),(t:Int))=some (C:Int)∧C<4294967296∧(∀i,C.testBit i=true->W.testBit i=true)∧(∀v u,C.testBit v=true->C.testBit u=true->¬Db g v u)∧(W≠0->C≠0):=by
 have aa:=M.n24;intro d
 induction d using Nat.strongRecOn with
 | _ d ih =>
  intro s a b t hs V c I w n j O hf;obtain⟨a,rfl⟩:∃f,a=f+1:=⟨a - 1,by omega⟩
  have P:bI (eX F r) (a+1) ((b:Int),(t:Int))=eX F r ((b:Int),(t:Int)) (bI (eX F r) a):=rfl;rw[P];unfold eX mK jU;dsimp only;by_cases S:b=0
  ·rw[if_neg (by omega)];refine⟨t,rfl,c,n,j,λX=> ?_⟩
   rcases O X with h|h
   ·exact h
   ·exact absurd (h.symm.trans S) X
  obtain⟨k,D⟩:=OC S;have E:=w k D.bit;have G:=U k E;have ab:s<=k:=by
   rcases zAq k s with q|q
   ·have:=D.bit;rw[I k q]at this;cases this
   ·exact q
  obtain⟨m,hm,J,A⟩:=T.at' k G;obtain⟨L,Y,Q,R⟩:=Tb V D;have p:k<32:=by omega
  have x:∀i,i<k+1->L.testBit i=false:=λi l=>by
   rw[R];by_cases e:i=k
   ·simp[e]
   ·rw[D.low i (by omega)];rfl
  have z:∀i,L.testBit i=true->W.testBit i=true:=λi l=>by
   rw[R,zA6]at l;exact w i l.1
  rw[if_pos (by omega),bD (adX F V D),cB (by have:=T.len;omega),hm,EC J c,Y];by_cases K:m &&& t=0
  ·rw[K,if_pos (by rfl),cB (by omega),SQ c p];have H:(t ||| 2^k).testBit k=true:=by rw[Nat.testBit_or,zB0];simp
   have y:∀u,t.testBit u=true->¬Db g k u:=λu o N=>by
    have:=congrArg (λq=>q.testBit u) K;simp only[Nat.testBit_and,Nat.zero_testBit,(A u).2 N,o]at this;cases this
   refine ih (32 - (k+1)) (by omega) (k+1) a L (t ||| 2^k) (by omega) Q (adQ c (Jl p)) x z (λi l=> ?_) (λv u B o=> ?_) (λ_=> .inl λe=>by rw[e]at H;simp at H) (by omega)
   ·rw[Nat.testBit_or,zB0,zAr,zA3]at l;rcases l with l|rfl
    ·exact n i l
    ·exact E
   ·rw[Nat.testBit_or,zB0,zAr,zA3]at B o;rcases B with B|rfl
    ·rcases o with o|rfl
     ·exact j v u B o
     ·exact λN=>y v B (M.back (U v (n v B)) N)
    ·rcases o with o|rfl
     ·exact y u o
     ·rintro⟨i,l,he⟩;exact((M.node k G).links i l).2.1 he
  ·rw[if_neg (by omega)];refine ih (32 - (k+1)) (by omega) (k+1) a L t (by omega) Q c x z n j (λ_=> .inl λe=> ?_) (by omega);rw[e]at K;exact K (Nat.and_zero m)
theorem TN {g:GR} (D:VG g) {r:aR} (M:PK g r) {a:Int} (aa:1<=a) (ab:a<=4) {e w:Nat} (E:Sk g e) (Q:w<4294967296):
  ∃t:Nat,fG 1000 r a (e:Int) (w:Int)=some (t:Int)∧(∀i,t.testBit i=true->e.testBit i=true)∧(e≠0->t≠0∧gH 1000 r a (e:Int) (t:Int)=some true∧(a<=2->∀v u,t.testBit v=true->t.testBit u=true->¬Db g v u)∧(a=4->t=e)):=by
 have N:=E.lt D;have f:e<4294967296:=by omega
 -- the wish
 obtain⟨W,V,m,l,o,X⟩:∃W:Nat,fG 1000 r a (e:Int) (w:Int)=jT 1000 r a (e:Int) (W:Int)∧W<4294967296∧(∀i,W.testBit i=true->e.testBit i=true)∧(e≠0->W≠0)∧(e=0->W=0):=by
  unfold fG;rw[EC Q f];by_cases G:w &&& e=0
  ·rw[G,if_pos (show((0:Nat):Int)=0 from rfl)];by_cases c:e=0
   ·refine⟨0,by rw[c];rfl,by omega,λi h=>by simp at h,λh=>absurd c h,λ_=>rfl⟩
   ·obtain⟨k,p⟩:=OC c;have n:=Iq f p.bit;refine⟨2^k,by rw[afS f p],Jl n,λi h=> ?_,λ_=>Nat.ne_of_gt (Nat.pow_pos (by omega)),λh=>absurd h c⟩
    rw[zB0,zA3]at h;rw[<-h];exact p.bit
  ·rw[if_neg (by omega)];refine⟨w &&& e,rfl,SO Q,λi h=> ?_,λ_=>G,λh=>by rw[h];exact Nat.and_zero w⟩
   rw[Nat.testBit_and,zA6]at h;exact h.2
 have s:Sk g W:=λi F=>E i (l i F);have d:∀(t:Nat),t≠0->t<4294967296->(∀i,t.testBit i=true->e.testBit i=true)->∀b,(if a=1 then some (decide ((eK .u32 (t:Int) (wI .u32 ((t:Int) - 1)))=0))else if a=2 then(Option.bind (iH 1000 r (t:Int)) λr7=>some r7)else if a=4 then some (decide ((t:Int)=(e:Int)))else some true)=some b->gH 1000 r a (e:Int) (t:Int)=some b:=by
  intro t G J A b Y;unfold gH mJ;have hd:Ga t e=0:=by
   refine Nat.eq_of_testBit_eq λi=> ?_;rw[MU J f,Nat.zero_testBit];cases H:t.testBit i with
   |false=>rfl
   |true=>rw[A i H];rfl
  rw[if_neg (by omega),Qe,hd,if_neg (by simp)];exact Y
 rw[V];unfold jT;by_cases y:a=1
 ·rw[if_pos y];by_cases x:W=0
  ·refine⟨0,by rw[x];rfl,λi h=>by simp at h,λh=>absurd x (o h)⟩
  ·obtain⟨k,p⟩:=OC x;have n:=Iq m p.bit;have U:Wb (2^k) k:=⟨by rw[zB0];simp,λj hj=>by rw[zB0];exact zA8 (by omega)⟩
   refine⟨2^k,by rw[afS m p],λi h=> ?_,λc=>⟨Nat.ne_of_gt (Nat.pow_pos (by omega)),?_,λ_ v u P O z=> ?_,λh=>by omega⟩⟩
   ·rw[zB0,zA3]at h;rw[<-h];exact l k p.bit
   ·refine d _ (Nat.ne_of_gt (Nat.pow_pos (by omega))) (Jl n) (λi h=> ?_) true ?_
    ·rw[zB0,zA3]at h;rw[<-h];exact l k p.bit
    ·obtain⟨m',R,e2,S⟩:=Tb (Jl n) U;rw[if_pos y,R];have:m'=0:=Nat.eq_of_testBit_eq λi=>by
      rw[S,zB0,Nat.zero_testBit];by_cases q:k=i
      ·simp[q]
      ·simp[q]
     rw[this];rfl
   ·rw[zB0,zA3]at P O;subst P;subst O;obtain⟨i,F,E⟩:=z;exact((D.node k (s k p.bit)).links i F).2.1 E
 rw[if_neg y];by_cases B:a=2
 ·rw[if_pos B];obtain⟨t,H,T,I,K,L⟩:=Qy D M s 1000 32 0 1000 W 0 (by omega) m (by omega) (λi F=>by omega) (λi h=>h) (λi h=>by simp at h) (λv u h=>by simp at h) (λ_=> .inr Z) (by omega);refine⟨t,H,λi h=>l i (I i h),λc=>⟨L (o c),?_,λ_=>K,λh=>by omega⟩⟩
  refine d t (L (o c)) T (λi h=>l i (I i h)) true ?_;rw[if_neg y,if_pos B,bD (Jt D M (λi h=>s i (I i h)) K)]
 rw[if_neg B];by_cases C:a=4
 ·rw[if_pos C];refine⟨e,rfl,λi h=>h,λc=>⟨c,d e c f (λi h=>h) true ?_,λh=>by omega,λ_=>rfl⟩⟩
  rw[if_neg y,if_neg B,if_pos C];simp
 ·rw[if_neg C];refine⟨W,rfl,l,λc=>⟨o c,d W (o c) m l true ?_,λh=>by omega,λh=>absurd h C⟩⟩
  rw[if_neg y,if_neg B,if_neg C]
end Go.Proofs.YtlkhndebimcbbaaGreatDoor
namespace Go.Proofs.YtlkhndebimcbbaaGreatDoor
open Go.Sx
def z_  (a:Int):Option (Int):=
 some (a)
def vK (c:aR) (a:gE) (b:jO->Option (Int)):Option (Int):=
 if a.2<(c.length:Int)then(ck (0<=a.2∧a.2<(c.length:Int)) (b ((max a.1 (at' c a.2)),(wI .i64 (a.2+(1:Int))))))else(z_  (a.1))
def Bd (U:Nat) (a:aR):Option (Int):=
 if(a.length:Int)<(1:Int)then(none)else(ck (0<=(0:Int)∧(0:Int)<(a.length:Int)) (bI (vK a) U ((at' a (0:Int)),(1:Int))))
theorem abI:aW Tryz.prog 123:=Tryz.call123
theorem Pa (U:Nat) {f:aR} (g:Value) (r:Int) (h:Bd U f=some r):
  aY Tryz.prog 123 #[g] [Sl bN g f] (λx:Unit=>vI (r)) (λx l=>l) (λ_ l=>l):=by
 refine aY.of Tryz.func123 Z Tryz.ntmps123 Z λc=>?_;refine aX<|aD Z<|aN<|aK<|aX<|aA Z<|jN (aE.fact 0 Z) Z<|cM Z<|aN ?_;refine fD h Z (λh=>?_) λh=>?_
 ·refine aQ ?_;cases h
 refine cL<|aX<|aA Z<|cT h λj h=>aB (aZ Z Z (aE.fact 0 Z) Z Z j) Z<|aB (bR Z (aE.fact 0 Z) Z Z Z cR j) Z<|aD Z<|aN<|aK<|dW (λb=>z_  b=some r) (λb i=>[(3,vI (b))]) (λb i=>[]) ?_ ?_
 ·refine aX<|aD Z<|aN<|aT<|dX (vK f) (λa d=>[(0,g),(3,vI (a.1)),(4,vI (a.2))]) (λa d=>[]) ((at' f (0:Int)),(1:Int)) () h SF (a_.refl _) ?_;intro k a d h;refine aK<|aX<|aA Z<|aA Z<|jN (aE.fact 0 Z) Z<|cM Z<|aN ?_;refine fD h Z (λh=>?_) λh=>?_
  ·refine cL<|aK<|aT<|aQ<|aA Z<|aA Z<|aA Z<|cT h λe h=>aB (aZ Z Z (aE.fact 0 Z) Z Z e) Z<|aB (bR Z (aE.fact 0 Z) Z Z Z cR e) Z<|aB (IZ Z Z) Z<|aD Z<|eM<|mN<|aQ<|aA Z<|cJ Z<|aD Z<|aN ?_;exact xR ((max a.1 (at' f a.2)),(wI .i64 (a.2+(1:Int)))) () h SF Z
  refine e_ ?_;exact gJ (a.1) () h SF Z
 intro b i h;unfold z_ at h;refine aX<|aA Z<|aD Z<|aN<|aV ?_;cases h;exact lA Z
def pA (U:Nat) (a:Fi) (b:cD) (d:Int):Option jO:=
 Option.bind (Bd U b.1) λc=>(some (a.2.2.1,(wI .i64 ((wI .i64 (a.2.2.2.1+(wI .i64 (a.2.2.2.2.1*(b.1.length:Int)))))+(wI .i64 (a.2.2.2.2.2*c))))))
theorem abH:aW Tryz.prog 122:=Tryz.call122
theorem HU (U:Nat) {a:Fi} {d:cD} {f:Int} (b:Value)  (e:Value)  (k:kA) (r:gE) (h:pA U a d f=some r):
  aY Tryz.prog 122 #[Value.agg #[vS (a.1),vI (a.2.1),vI (a.2.2.1),vI (a.2.2.2.1),vI (a.2.2.2.2.1),vI (a.2.2.2.2.2)],Value.agg #[b,e],vI (f)] [Sl bN b d.1,S2 bA e k d.2] (λx:Unit=>Value.tuple #[vI (r.1),vI (r.2)]) (λx l=>l) (λ_ l=>l):=by
 refine aY.of Tryz.func122 Z Tryz.ntmps122 Z λc=>?_;refine aX<|aH (aO.box (cs:=[vS (a.1),vI (a.2.1),vI (a.2.2.1),vI (a.2.2.2.1),vI (a.2.2.2.2.1),vI (a.2.2.2.2.2)]) Z Z) Z λm=>aH (aO.box (cs:=[b,e]) Z Z) Z λn=>aD Z<|aD Z<|aN<|aK ?_;refine JR.start [0,1,0,4,0,16,0,64,192,496,1020,0,2048,0,8192,24576,63488,131068,57347,524287] 19 mixedOrders (by decide +kernel) ?_;refine zBd (by exact rfl) ?_;refine dB Z<|iZ 1 Z<|dB Z<|iZ 1 Z<|dB Z<|iZ 1 Z<|dB Z<|iZ 0 Z<|bJ Z .nil (jS 0 Z) (fX Z (aE.fact 0 Z) Z) aM.z<|jD Z (AA Z Z)<|jD Z (Az Z Z)<|dB Z<|iZ 1 Z<|dB Z<|iZ 0 Z<|eZ h λg i h=>zBc Z Z Z (zBa abI (Pa U b g i) Z (mT [0] Z)) Z (λj=>(uB [([1],[]),([],[0]),([0],[]),([1],[]),([1],[]),([1],[])] Z)) λj=>jD Z (AA Z Z)<|jD Z (Az Z Z)<|jD Z (oZ Z)<|bO 19 Z Z<|aD Z<|aN<|aV ?_;cases h;exact oB () Z Z (RV.tmp Z) (RV.tmp Z) .nil aG.nil
def sQ (U:Nat) (a:Fi) (b:cD) (c:Int):Option jO:=
 some ((0:Int),(1:Int))
theorem abJ:aW Tryz.prog 124:=Tryz.call124
theorem HV (U:Nat) {a:Fi} {b:cD} {f:Int} (d:Value)  (e:Value)  (g:kA) (r:gE) (h:sQ U a b f=some r):
  aY Tryz.prog 124 #[Value.agg #[vS (a.1),vI (a.2.1),vI (a.2.2.1),vI (a.2.2.2.1),vI (a.2.2.2.2.1),vI (a.2.2.2.2.2)],Value.agg #[d,e],vI (f)] [Sl bN d b.1,S2 bA e g b.2] (λx:Unit=>Value.tuple #[vI (r.1),vI (r.2)]) (λx l=>l) (λ_ l=>l):=by
 refine aY.of Tryz.func124 Z Tryz.ntmps124 Z λc=>?_;unfold sQ at h;refine aX<|aH (aO.box (cs:=[vS (a.1),vI (a.2.1),vI (a.2.2.1),vI (a.2.2.2.1),vI (a.2.2.2.2.1),vI (a.2.2.2.2.2)]) Z Z) Z λi=>aH (aO.box (cs:=[d,e]) Z Z) Z λj=>aD Z<|aD Z<|aN<|aX<|aD Z<|aD Z<|aN<|aV ?_;cases h;exact oB () Z Z (RV.tmp Z) (RV.tmp Z) .nil aG.nil
def pB (U:Nat) (c:Fi) (b:cD) (a:Int):Option jO:=
 ck (0<=a∧a<(b.2.length:Int)) (some ((-1:Int),(wI .i64 (((at' b.2 a).length:Int) - (1:Int)))))
theorem abK:aW Tryz.prog 125:=Tryz.call125
theorem HW (U:Nat) {a:Fi} {d:cD} {g:Int} (e:Value)  (f:Value)  (i:kA) (r:gE) (h:pB U a d g=some r):
  aY Tryz.prog 125 #[Value.agg #[vS (a.1),vI (a.2.1),vI (a.2.2.1),vI (a.2.2.2.1),vI (a.2.2.2.2.1),vI (a.2.2.2.2.2)],Value.agg #[e,f],vI (g)] [Sl bN e d.1,S2 bA f i d.2] (λx:Unit=>Value.tuple #[vI (r.1),vI (r.2)]) (λx l=>l) (λ_ l=>l):=by
 refine aY.of Tryz.func125 Z Tryz.ntmps125 Z λc=>?_;refine aX<|aH (aO.box (cs:=[vS (a.1),vI (a.2.1),vI (a.2.2.1),vI (a.2.2.2.1),vI (a.2.2.2.2.1),vI (a.2.2.2.2.2)]) Z Z) Z λj=>aH (aO.box (cs:=[e,f]) Z Z) Z λk=>aD Z<|aD Z<|aN<|aK ?_;refine JR.start [0,1,0,7,15,31,63,0,255] 8 mixedOrders (by decide +kernel) ?_;refine zBd (by exact rfl) ?_;refine dB Z<|iZ 0 Z<|bG Z<|cT h λb h=>bJ Z .nil (jS 1 Z) (cC Z Z (aE.fact 0 Z) Z Z b) aM.z<|bJ Z .nil (jS 1 Z) (b_ Z (aE.fact 0 Z) Z Z b) aM.z<|bJ Z .nil (jS 1 Z) (fX Z (zBb (aE.fact 0 Z) b.1 b.2) Z) aM.z<|jD Z (oI Z Z)<|jD Z (oZ Z)<|bO 8 Z Z<|aD Z<|aN<|aV ?_;cases h;exact oB () Z Z (RV.tmp Z) (RV.tmp Z) .nil aG.nil
end Go.Proofs.YtlkhndebimcbbaaGreatDoor