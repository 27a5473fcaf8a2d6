/- Models and proofs. Conditions: none. -/
import Derived.Test.YtahgemjmgopleaaGreatDoorZCTe4
import Derived.Test.YtahgemjmgopleaaGreatDoorZCTe2
set_option linter.unusedVariables false
set_option linter.unusedSimpArgs false
set_option maxHeartbeats 4000000
set_option maxRecDepth 20000
namespace Go.Gx
open Go Go.Sx
noncomputable section
section
variable {α R:Type}
def a0 (a:List α) (k:Option R):Option R:=List.casesOn (motive:=λ_=>Option R) a k (λ_ _=>none)
def a1 (b:List α) (k:α->Option R):Option R:=List.casesOn (motive:=λ_=>Option R) b none λa r=>a0 r (k a)
def a2 (b:List α) (k:α->α->Option R):Option R:=List.casesOn (motive:=λ_=>Option R) b none λa r=>a1 r (k a)
def a3 (b:List α) (k:α->α->α->Option R):Option R:=List.casesOn (motive:=λ_=>Option R) b none λa r=>a2 r (k a)
def a4 (b:List α) (k:α->α->α->α->Option R):Option R:=List.casesOn (motive:=λ_=>Option R) b none λa r=>a3 r (k a)
def a5 (us:List α) (k:α->α->α->α->α->Option R):Option R:=List.casesOn (motive:=λ_=>Option R) us none λa r=>a4 r (k a)
def a6 (b:List α) (k:α->α->α->α->α->α->Option R):Option R:=List.casesOn (motive:=λ_=>Option R) b none λa r=>a5 r (k a)
theorem abc {a:List α} {k:Option R} {r:R} (h:a0 a k=some r):a=[]∧k=some r:=by
 cases a with
 |nil=>exact⟨rfl,h⟩
 |cons _ _=>cases h
theorem Uz {a:List α} {k:α->Option R} {r:R} (h:a1 a k=some r):∃x,a=[x]∧k x=some r:=by
 cases a with
 |nil=>cases h
 |cons x a=>obtain⟨rfl,h⟩:=abc h;exact⟨x,rfl,h⟩
theorem UA {a:List α} {k:α->α->Option R} {r:R} (h:a2 a k=some r):∃x y,a=[x,y]∧k x y=some r:=by
 cases a with
 |nil=>cases h
 |cons x a=>obtain⟨y,rfl,h⟩:=Uz h;exact⟨x,y,rfl,h⟩
theorem abd {a:List α} {k:α->α->α->Option R} {r:R} (h:a3 a k=some r):∃x y z,a=[x,y,z]∧k x y z=some r:=by
 cases a with
 |nil=>cases h
 |cons x a=>obtain⟨y,z,rfl,h⟩:=UA h;exact⟨x,y,z,rfl,h⟩
theorem OS {a:List α} {k:α->α->α->α->Option R} {r:R} (h:a4 a k=some r):∃x y z u,a=[x,y,z,u]∧k x y z u=some r:=by
 cases a with
 |nil=>cases h
 |cons x a=>obtain⟨y,z,u,rfl,h⟩:=abd h;exact⟨x,y,z,u,rfl,h⟩
theorem abe {a:List α} {k:α->α->α->α->α->Option R} {r:R} (h:a5 a k=some r):∃x y z u v,a=[x,y,z,u,v]∧k x y z u v=some r:=by
 cases a with
 |nil=>cases h
 |cons x a=>obtain⟨y,z,u,v,rfl,h⟩:=OS h;exact⟨x,y,z,u,v,rfl,h⟩
theorem abf {a:List α} {k:α->α->α->α->α->α->Option R} {r:R} (h:a6 a k=some r):∃x y z u v w,a=[x,y,z,u,v,w]∧k x y z u v w=some r:=by
 cases a with
 |nil=>cases h
 |cons x a=>obtain⟨y,z,u,v,w,rfl,h⟩:=abe h;exact⟨x,y,z,u,v,w,rfl,h⟩
end
def dSc (k:IntKind) (v:GV):Option Int:=ob v.asI λp=>bif eqK p.1 k then some p.2 else none
def YO (H:GH) (v:GV):Option (List Int):=Na H 1 (dI .u32) v
def agN (H:GH) (v:GV):Option (Int×List Int×List Int×List Int×Bool×Bool):=ob v.asA λcs=>a6 cs λa b c d e f=>ob (dSc .i64 a) λn=>ob (NU H b) λx=>ob (NU H c) λy=>ob (NU H d) λz=>ob e.asB λp=>ob f.asB λq=>some (n,x,y,z,p,q)
def gI (n:Int):List GV:=[.int .i64 n]
def gP (p:Int×Int):List GV:=[.int .i64 p.1,.int .i64 p.2]
def fcI {R:Type} (l:List Int):(List Int->R)->R:=List.rec (motive:=λ_=>(List Int->R)->R) (λk=>k []) (λx _ a k=>fi x λx=>a λr=>k (x::r)) l
def fcP {R:Type} (l:List (Int×Int)):(List (Int×Int)->R)->R:=List.rec (motive:=λ_=>(List (Int×Int)->R)->R) (λk=>k []) (λx _ c k=>fi x.1 λa=>fi x.2 λb=>c λr=>k ((a,b)::r)) l
def fcR {R:Type} (l:List (List (Int×Int))):(List (List (Int×Int))->R)->R:=List.rec (motive:=λ_=>(List (List (Int×Int))->R)->R) (λk=>k []) (λx _ a k=>fcP x λx=>a λr=>k (x::r)) l
theorem Zc {R:Type}:∀(l:List Int) (k:List Int->R),fcI l k=k l
 | [],k=>rfl
 |x::l,k=>by
  show fi x (λx=>fcI l λr=>k (x::r))=_;rw[NZ,Zc l]
theorem Zd {R:Type}:∀(l:List (Int×Int)) (k:List (Int×Int)->R),fcP l k=k l
 | [],k=>rfl
 |x::l,k=>by
  show fi x.1 (λa=>fi x.2 λb=>fcP l λr=>k ((a,b)::r))=_;rw[NZ,NZ,Zd l]
theorem Ze {R:Type}:∀(l:List (List (Int×Int))) (k:List (List (Int×Int))->R),fcR l k=k l
 | [],k=>rfl
 |x::l,k=>by
  show fcP x (λx=>fcR l λr=>k (x::r))=_;rw[Zd,Ze l]
def ZO (b:Bool) (H:GH):OR:=Bool.casesOn (motive:=λ_=>OR) b (some (.bool false,H)) (some (.bool true,H))
def Ua (r:List Int×List (List (Int×Int))) (H:GH):OR:=fcI r.1 λx=>fcR r.2 λy=>bif Nat.beq x.length 0 then none else bif Nat.beq y.length 0 then none else bif y.any λl=>Nat.beq l.length 0 then none else
 fc (x.flatMap gI) λl=>H.newK (.cells l) λh a=>fc (xX 2 gP y a).1 λd=>sn x.length λn=>sn y.length λm=>(xX 2 gP y a).2.newK (.cells d) λc b=>some (.agg [.sl h 0 n 1,.sl c 0 m 1],b)
end
section
variable {P:Program} {gs:BA} {w0:fQ gs} {w:World} {ρ:fC} {H H':GH} {g:GV}
theorem qL.one {x:GV} {vs:List Value} (h:qL ρ [x] vs):∃V,vs=[V]∧Rl ρ x V:=by
 obtain⟨v,vs,rfl,a,b⟩:=h.of_cons;rw[b.of_nil];exact⟨v,rfl,a⟩
theorem FV {k:IntKind} {v:GV} {V:Value} {n:Int} (a:Rl ρ v V) (h:dSc k v=some n):V = .int k n:=by
 obtain⟨p,c,h⟩:=aF.1 (show ob v.asI _=some n from h);obtain⟨b,h⟩:=bV.1 h;cases h;rw[pG c]at a;rw[a.int_inv,Jw b]
theorem Yh {v:GV} {V:Value} {b:Bool} (a:Rl ρ v V) (h:v.asB=some b):V = .bool b:=by
 rw[Dt h]at a;exact a.bool_inv
theorem Rj (R:gH w0 ρ H w) {v:GV} {V:Value} {a:List Int} (b:Rl ρ v V) (h:YO H v=some a):(Sl (fU.int .u32) V a).p w All:=by
 obtain⟨d,rfl,c⟩:=Df R (λ_ _=>trivial) (eX.int .u32) b h;rw[List.map_id];exact c
theorem acm (R:gH w0 ρ H w) {v:GV} {V:Value} {p:Int×List Int×List Int×List Int×Bool×Bool} (l:Rl ρ v V) (h:agN H v=some p):
  ∃m o s,V = .agg #[.int .i64 p.1,m,o,s,.bool p.2.2.2.2.1,.bool p.2.2.2.2.2]∧(Sl (fU.int .i64) m p.2.1).p w All∧(Sl (fU.int .i64) o p.2.2.1).p w All∧(Sl (fU.int .i64) s p.2.2.2.1).p w All:=by
 obtain⟨T,k,h⟩:=aF.1 (show ob v.asA _=some p from h);obtain⟨a,b,c,d,e,f,rfl,h⟩:=abf h;obtain⟨n,I,h⟩:=aF.1 h;obtain⟨x,L,h⟩:=aF.1 h;obtain⟨y,M,h⟩:=aF.1 h;obtain⟨z,N,h⟩:=aF.1 h;obtain⟨q,J,h⟩:=aF.1 h;obtain⟨r,K,h⟩:=aF.1 h;cases h;rw[Ls k]at l;obtain⟨j,rfl,i,_⟩:=l.agg_inv;obtain⟨U,j,rfl,B,i⟩:=i.of_cons;obtain⟨O,j,rfl,C,i⟩:=i.of_cons;obtain⟨Q,j,rfl,D,i⟩:=i.of_cons;obtain⟨S,j,rfl,E,i⟩:=i.of_cons;obtain⟨W,j,rfl,F,i⟩:=i.of_cons;obtain⟨X,rfl,G⟩:=i.one;have t:=FV B I;have u:=Yh F J;have A:=Yh G K;subst t u A;exact⟨O,Q,S,rfl,Iv R C L,Iv R D M,Iv R E N⟩
theorem Mg {b:Bool} (h:ZO b H=some (g,H')):g = .bool b∧H'=H:=by
 cases b<;>cases h<;>exact⟨rfl,rfl⟩
theorem RF {r:List Int×List (List (Int×Int))} (h:Ua r H=some (g,H')):r.1≠[]∧r.2≠[]∧(∀a∈r.2,a≠[])∧
  g = .agg [.sl H.n 0 r.1.length 1,.sl (xX 2 gP r.2 (H.new (.cells (r.1.flatMap gI)))).2.n 0 r.2.length 1]∧H'=(xX 2 gP r.2 (H.new (.cells (r.1.flatMap gI)))).2.new (.cells (xX 2 gP r.2 (H.new (.cells (r.1.flatMap gI)))).1):=by
 unfold Ua at h;rw[Zc,Ze]at h;obtain⟨b,h⟩:=lQ.1 h;obtain⟨c,h⟩:=lQ.1 h;obtain⟨d,h⟩:=lQ.1 h;rw[Ve,jR,Ve,yZ,yZ,jR]at h;cases h;refine⟨λe=>(by rw[e]at b;cases b),λe=>(by rw[e]at c;cases c),λa f e=>?_,rfl,rfl⟩
 have:=List.any_eq_false.1 d a f;rw[e]at this;exact this Z
theorem agS (ρ:fC) (x:Int):qL ρ (gI x) [.int .i64 x]:= .cons (.int _ _) .nil
theorem agT (ρ:fC) (x:Int×Int):qL ρ (gP x) [.int .i64 x.1,.int .i64 x.2]:= .cons (.int _ _) (.cons (.int _ _) .nil)
def glb (b:Nat) (a:List Value) (T:Nat):BA:=⟨[(b,.cells a.toArray T (0,0))],[]⟩
theorem TP {b:Nat} {a:List Value} (w:World) (S:Nat->Prop) (h:∀h∈[Gb b a],h.p w S):∃T,Ka (glb b a T) w λ_=>False:=by
 obtain⟨_,T,c⟩:=h _ (List.mem_singleton.2 Z);exact⟨T,λp d=>by obtain rfl:=List.mem_singleton.1 d;exact⟨c,id⟩⟩
theorem gH.glb {b:Nat} {a:List Value} {T:Nat} {c:fQ (glb b a T)} {w:World} {ρ:fC} {H:GH} (R:gH c ρ H w):(Gb b a).p w All:=⟨trivial,T,(R.glo _ (List.mem_singleton.2 Z)).1⟩
theorem Pz {gs:Nat->BA} {f:Nat} {V:Value} {L:List bI} (q:∀w S,(∀h∈L,h.p w S)->∃T,Ka (gs T) w λ_=>False) (r:aV P f) (y:∀ρ d,Rl ρ g d->d=V) (h:∀T (b:fQ (gs T)),lX P b (λ_=>none) f [] b.w g H'):aW P f #[] L (λ_:Unit=>V) (λ_ l=>l) (λ_ l=>l):=by
 intro w0 o z;obtain⟨T,n⟩:=q w0 o z;rcases h T (.of w0 n)with⟨v,A,c,a,_⟩|⟨_,s⟩
 ·have x:=r #[] w0;rw[show([]:List Value).toArray = #[]from rfl]at a;rw[show(fQ.of w0 n).w=w0 from rfl,x]at a;cases a
 refine s.mono ?_;rintro e A ⟨v,c,rfl,_,R,a⟩;exact⟨(),by rw[y _ _ a],R.ext,λ_ _=>False,⟨λi m u=>by simp at u,λi k h=>h.elim,λi j k h=>h.elim⟩,λf t=>by simp at t⟩
section
variable {tb:TB} {T:TypeId}
theorem UD (h:DV tb T=some [Ay]) (H:GH):Av tb T H=some (.ptr H.n 0,H.new (.cells [Ay])):=by
 unfold Av;rw[h];show H.newK (.cells [Ay]) (λh H'=>some (GV.ptr h 0,H'))=_;rw[jR]
theorem VL {t:Ty} (h:tb T=some t) (e:t.size=1) (H:GH) (k:Nat) (c:GV) (d:GH.cells H k=some [c]):u_ tb T (.ptr k 0) Ay H=some (.un,H.set k (.cells [Ay])):=by
 show ob (H.cells k) (λb=>ob (tb T) λt=>bif Nat.beq 1 t.size then bif Nat.beq t.size 0 then none else ob (IA [Ay] 0 b) λa=>H.setK k (.cells a) λH'=>some (GV.un,H')else none)=_;rw[d,h];show(bif Nat.beq 1 t.size then bif Nat.beq t.size 0 then none else ob (IA [Ay] 0 [c]) λa=>H.setK k (.cells a) λH'=>some (GV.un,H')else none)=_;rw[e];show H.setK k (.cells [Ay]) (λH'=>some (GV.un,H'))=_;rw[AH]
theorem ZB {t:Ty} (h:tb T=some t) (b:Ax t.desc=false) (H:GH) (k:Nat) (c:GH.cells H k=some [Ay]):zB tb T (.ptr k 0) H=some Ay:=by
 show ob (H.cells k) (λa=>ob (tb T) λt=>Dm t a 0)=_;rw[c,h];show Dm t [Ay] 0=_;unfold Dm;rw[b];rfl
end
def Pd (a:Func):List Oper:=match a.body with
 |some (.seq (.region _ ops _) _)=>ops.toList
 |_=>[]
def YD (a:Func):Code:=match a.body with
 |some (.seq _ c)=>c
 |_=> .skip
def ack (a:Func):Nat:=match Pd a with
 |o::_=>o.dst.getD 0
 | []=>0
def okN (r:RS):Bool:=match r with
 |some o=>match o.e with
  | .normal=>true
  |_=>false
 |none=>false
theorem ZP {r:RS} (h:okN r=true):∃a,r=some a∧a.e = .normal:=by
 unfold okN at h;cases r with
 |none=>cases h
 |some o=>
  refine⟨o,rfl,?_⟩
  cases b:o.e<;>simp only[b]at h<;>first|rfl|cases h
def okT (r:OR):Bool:=match r with
 |some (.bool true,_)=>true
 |_=>false
theorem ZQ {r:OR} (h:okT r=true):∃H',r=some (.bool true,H'):=by
 unfold okT at h;split at h
 ·exact⟨_,rfl⟩
 ·cases h
end
end Go.Gx
namespace Go.Proofs.YtahgemjmgopleaaGreatDoor
open Go.Sx
def pE  (a:Unit):Option Bool:=
 some (true)
def jF (d:aX) (a:Int×List (Bool)) (c:(Int×List (Bool))->Option Bool) (b:Bool):Option Bool:=
 if b=true then(some (false))else(ck ((0<=(at' d a.1)∧(at' d a.1)<((256:Nat):Int))∧a.2.length=256) (c ((wI .i64 (a.1+(1:Int))),(List.set a.2 (Int.toNat (at' d a.1)) true))))
def g_ (b:aX) (a:Int×List (Bool)) (c:(Int×List (Bool))->Option Bool):Option Bool:=
 if a.1<(b.length:Int)then(ck (0<=a.1∧a.1<(b.length:Int)) (if(at' b a.1)<(0:Int)then(jF b a c (true))else(if(255:Int)<(at' b a.1)then(jF b a c (true))else(ck ((0<=(at' b a.1)∧(at' b a.1)<((256:Nat):Int))∧a.2.length=256) (jF b a c ((at' a.2 (at' b a.1))))))))else(pE  (()))
def kB (U:Nat) (a:aX):Option Bool:=
 bK (g_ a) U ((0:Int),(List.replicate 256 false))
theorem abt:aV Tryz.prog 120:=Tryz.call120
theorem Gl (U:Nat) {d:aX} (n:Value) (r:Bool) (h:kB U d=some r):
  aW Tryz.prog 120 #[n] [Sl bX n d] (λx:Unit=>vB (r)) (λx l=>l) (λ_ l=>l):=by
 refine aW.of Tryz.func120 Z Tryz.ntmps120 Z λc=>?_;unfold kB at h;refine aR<|aB Z<|aL<|aR ?_;refine aH (aN.alloc (cs:=cellsOf EBo (List.replicate 256 false)) Z (by kernel_rfl)) Z λm=>?_;refine aL<|aK<|dK (λk=>pE  k=some r) (λk o=>[]) (λk o=>[]) ?_ ?_
 ·refine aR<|aA Z<|iF (aD.fact 0 Z) Z<|aA Z<|aL<|aS<|eB (g_ d) (λa p=>[(3,vP m),(6,n),(7,vI (d.length:Int)),(8,vI (a.1))]) (λa p=>[cJ m (cellsOf EBo a.2) 209]) ((0:Int),(List.replicate 256 false)) () h SF (bA.refl _) ?_;intro q a p h;refine aR<|cZ Z<|aL<|aK ?_;refine d_ h Z (λh=>?_) λh=>?_
  ·refine cE<|aK<|aS<|aR<|dW h λg h=>aC (a_ Z Z (aD.fact 0 Z) Z Z g) Z<|aC (bY Z (aD.fact 0 Z) Z Z Z eH g) Z<|aB Z<|aL<|aK<|aK<|dK (λb=>jF d a (bK (g_ d) q) b=some r) (λb f=>[(3,vP m),(5,vI (at' d a.1)),(6,n),(7,vI (d.length:Int)),(8,vI (a.1)),(22,vB (b))]) (λb f=>[cJ m (cellsOf EBo a.2) 209]) ?_ ?_
   ·refine aO<|aA Z<|cZ Z<|aA Z ?_;refine wN h Z (λ_ h=>?_) λ_ h=>?_
    ·refine aE Z<|aE Z<|dA Z<|aA Z<|aE Z<|aE Z<|aE Z<|dA Z<|aL ?_;exact eW (true) () h SF Z
    refine bZ Z<|aM Z (uE Z Z) Z<|c_ Z<|aA Z ?_;refine wN h Z (λ_ h=>?_) λ_ h=>?_
    ·refine aE Z<|aE Z<|aE Z<|dA Z<|aL ?_;exact eW (true) () h SF Z
    refine bZ Z<|dW h λj h=>aM Z (lM Z Z Z Z Z j.1) Z<|aM Z (Jp (e:=EBo) Z (aD.res 0 Z) Z Z Z Z j) Z<|c_ Z<|aL ?_;exact eW ((at' a.2 (at' d a.1))) () h SF Z
   intro b f h;refine tT h Z (λ_ h=>?_) λ_ h=>?_
   ·refine aR<|aB Z<|aL<|aQ<|aI<|bG<|aI<|aI<|bG<|aI ?_;cases h;exact oA Z
   refine cE<|aO<|aA Z<|dW h λi h=>aC (lM Z Z Z Z Z i.1) Z<|HF 0 (e:=EBo) true i Z Z Z Z Z Z Z<|eN<|jH<|aO<|cD Z<|aA Z<|aL ?_;exact tV ((wI .i64 (a.1+(1:Int))),(List.set a.2 (Int.toNat (at' d a.1)) true)) () h SF Z
  refine eS ?_;exact bU () (()) h SF .nil (aG.refl _ _)
 intro k o h;unfold pE at h;refine aR<|aB Z<|aL<|aQ ?_;cases h;exact fW Z
def yS (c:(List ((Int×Int)×Int))) (a:(Int×Int)×Int) (b:Option Bool):Option Bool:=
 if(Option.getD (nX (a.1.2,a.1.1) c) (0:Int))≠a.2 then(some (false))else(b)
def jU  (a:(List ((Int×Int)×Int))):Option Bool:=
 Ng (yS a) (some (true)) a
def oI (b:Ko) (a:Ox->Option Bool) (c:(List ((Int×Int)×Int))):Option Bool:=
 a ((wI .i64 (b.1+(1:Int))),c)
def jV (e:h_) (b:Ko) (a:Ko) (c:Ox->Option Bool) (d:Bool):Option Bool:=
 if d=true then(some (false))else(if(Option.isSome (nX (b.1,((at' (at' e b.1) a.1).1)) a.2))=true then(some (false))else(c ((wI .i64 (a.1+(1:Int))),(ES (b.1,((at' (at' e b.1) a.1).1)) ((at' (at' e b.1) a.1).2) a.2))))
def iJ (d:h_) (a:Ko) (b:Ko) (c:Ox->Option Bool) (e:Bool):Option Bool:=
 if e=true then(some (false))else(if((at' (at' d a.1) b.1).2)<(1:Int)then(jV d a b c (true))else(jV d a b c (decide ((15:Int)<((at' (at' d a.1) b.1).2)))))
def dR (d:h_) (a:Ko) (e:Ox->Option Bool) (b:Ko) (c:Ox->Option Bool):Option Bool:=
 if b.1<((at' d a.1).length:Int)then(ck (0<=b.1∧b.1<((at' d a.1).length:Int)) (if((at' (at' d a.1) b.1).1)<(0:Int)then(iJ d a b c (true))else(if(d.length:Int)<=((at' (at' d a.1) b.1).1)then(iJ d a b c (true))else(iJ d a b c (decide (((at' (at' d a.1) b.1).1)=a.1))))))else(oI a e (b.2))
def eJ (U:Nat) (c:h_) (a:Ko) (b:Ox->Option Bool):Option Bool:=
 if a.1<(c.length:Int)then(ck (0<=a.1∧a.1<(c.length:Int)) (bK (dR c a b) U ((0:Int),a.2)))else(jU  (a.2))
def iB (U:Nat) (a:h_):Option Bool:=
 bK (eJ U a) U ((0:Int),([]:List ((Int×Int)×Int)))
theorem abu:aV Tryz.prog 121:=Tryz.call121
theorem IY (U:Nat) {f:h_} (n:Value)  (F:iX) (r:Bool) (h:iB U f=some r):
  aW Tryz.prog 121 #[n] [S2 bD n F f] (λx:Unit=>vB (r)) (λx l=>l) (λ_ l=>l):=by
 refine aW.of Tryz.func121 Z Tryz.ntmps121 Z λc=>?_;unfold iB at h;refine aR<|aB Z<|aL<|aR<|aH (aN.makeMap o_ SA) Z λk=>aB Z<|aL<|aK<|dK (λq=>jU  q=some r) (λq H=>[(3,Value.map (some k))]) (λq H=>[Mp o_ SA k q]) ?_ ?_
 ·refine aR<|aA Z<|aC (gM Z (aD.fact 0 Z) Z) Z<|aA Z<|aL<|aS<|eB (eJ U f) (λd y=>[(0,n),(3,Value.map (some k)),(14,n),(15,vI (f.length:Int)),(16,vI (d.1))]) (λd y=>[Mp o_ SA k d.2]) ((0:Int),([]:List ((Int×Int)×Int))) () h SF (bA.refl _) ?_;intro t d y h;refine aR<|cZ Z<|aL<|aK ?_;refine d_ h Z (λh=>?_) λh=>?_
  ·refine cE<|aK<|dK (λm=>oI d (bK (eJ U f) t) m=some r) (λm z=>[(0,n),(3,Value.map (some k)),(14,n),(15,vI (f.length:Int)),(16,vI (d.1))]) (λm z=>[Mp o_ SA k m]) ?_ ?_
   ·refine aS<|aR<|aA Z<|dW h λj h=>aC (cY Z Z (aD.fact 0 Z) Z Z j) Z<|aC (cL Z (aD.fact 0 Z) Z Z j) Z<|aB Z<|aB Z<|aL<|aR<|aA Z<|aC (fX Z (zBi (aD.fact 0 Z) j.1 j.2) Z) Z<|aA Z<|aL<|aS<|eB (dR f d (bK (eJ U f) t)) (λe A=>[(0,n),(3,Value.map (some k)),(4,vI (d.1)),(14,n),(15,vI (f.length:Int)),(16,vI (d.1)),(21,(at' F d.1).1),(22,vI ((at' f d.1).length:Int)),(23,vI (e.1))]) (λe A=>[Mp o_ SA k e.2]) ((0:Int),d.2) () h SF (bA.refl _) ?_;intro E e A h;refine aR<|cZ Z<|aL<|aK ?_;refine d_ h Z (λh=>?_) λh=>?_
    ·refine cE<|aK<|aS<|aR<|dW h λD h=>aC (a_ Z Z (zBi (aD.fact 0 Z) j.1 j.2) Z Z D) Z<|aC (jT (cs:=[vI ((at' (at' f d.1) e.1).1),vI ((at' (at' f d.1) e.1).2)]) Z (zBi (aD.fact 0 Z) j.1 j.2) cG Z Z Z Z D) Z<|aH (aN.alloc (cs:=XA) Z Z) Z λs=>bF 0 (vs:=[vI ((at' (at' f d.1) e.1).1),vI ((at' (at' f d.1) e.1).2)]) Z Z Z Z Z Z<|aL<|aK<|aK<|dK (λo=>iJ f d e (bK (dR f d (bK (eJ U f) t)) E) o=some r) (λo B=>[(0,n),(3,Value.map (some k)),(4,vI (d.1)),(7,vP s),(14,n),(15,vI (f.length:Int)),(16,vI (d.1)),(21,(at' F d.1).1),(22,vI ((at' f d.1).length:Int)),(23,vI (e.1)),(42,vB (o))]) (λo B=>[cJ s [vI ((at' (at' f d.1) e.1).1),vI ((at' (at' f d.1) e.1).2)] 141,Mp o_ SA k e.2]) ?_ ?_
     ·refine aO<|bN Z<|dL 0 Z<|cZ Z<|aA Z ?_;refine wN h Z (λ_ h=>?_) λ_ h=>?_
      ·refine aE Z<|aE Z<|aE Z<|aE Z<|aE Z<|dA Z<|aA Z<|aE Z<|aE Z<|aE Z<|aE Z<|dA Z<|aL ?_;exact eW (true) () h SF Z
      refine aM Z (cQ Z Z Z Z Z) Z<|aM Z (dN 0 Z Z Z Z Z) Z<|bZ Z<|aM Z (gM Z (aD.fact 0 Z) Z) Z<|aM Z (wC Z Z) Z<|c_ Z<|aA Z ?_;refine wN h Z (λ_ h=>?_) λ_ h=>?_
      ·refine aE Z<|aE Z<|aE Z<|aE Z<|dA Z<|aL ?_;exact eW (true) () h SF Z
      refine aM Z (cQ Z Z Z Z Z) Z<|aM Z (dN 0 Z Z Z Z Z) Z<|bZ Z<|aM Z (Cy Z Z) Z<|c_ Z<|aL ?_;exact eW (decide (((at' (at' f d.1) e.1).1)=d.1)) () h SF Z
     intro o B h;refine tT h Z (λ_ h=>?_) λ_ h=>?_
     ·refine aR<|aB Z<|aL<|aQ<|aI<|bG<|aI<|aI<|bG<|bG<|aI<|aI<|bG<|aI ?_;cases h;exact oA Z
     refine cE<|aK<|aK<|dK (λp=>jV f d e (bK (dR f d (bK (eJ U f) t)) E) p=some r) (λp C=>[(0,n),(3,Value.map (some k)),(4,vI (d.1)),(7,vP s),(14,n),(15,vI (f.length:Int)),(16,vI (d.1)),(21,(at' F d.1).1),(22,vI ((at' f d.1).length:Int)),(23,vI (e.1)),(50,vB (p))]) (λp C=>[cJ s [vI ((at' (at' f d.1) e.1).1),vI ((at' (at' f d.1) e.1).2)] 141,Mp o_ SA k e.2]) ?_ ?_
     ·refine aO<|bN Z<|dL 0 Z<|cZ Z<|aA Z ?_;refine wN h Z (λ_ h=>?_) λ_ h=>?_
      ·refine aE Z<|aE Z<|aE Z<|dA Z<|aL ?_;exact eW (true) () h SF Z
      refine aM Z (cQ Z Z Z Z Z) Z<|aM Z (dN 0 Z Z Z Z Z) Z<|aM Z (uE Z Z) Z<|c_ Z<|aL ?_;exact eW (decide ((15:Int)<((at' (at' f d.1) e.1).2))) () h SF Z
     intro p C h;refine tT h Z (λ_ h=>?_) λ_ h=>?_
     ·refine aR<|aB Z<|aL<|aQ<|aI<|bG<|aI<|aI<|bG<|bG<|aI<|aI<|bG<|aI ?_;cases h;exact oA Z
     refine cE<|aR<|aA Z<|bN Z<|dL 0 Z ?_;refine aC (FK (r:=Value.agg #[vI (d.1),vI ((at' (at' f d.1) e.1).1)]) Z Z (by intro w;simp[Instr.build,Instr.fill,cT,b_,bW,cU,cV,cA,dJ])) Z ?_;refine aH (aN.alloc (cs:=XA) Z Z) Z λK=>bF 0 (vs:=[vI (d.1),vI ((at' (at' f d.1) e.1).1)]) Z Z Z Z Z Z<|aL<|aK<|aR<|aA Z<|cM 0 Z ?_;refine aC (QX 2 ((d.1,((at' (at' f d.1) e.1).1))) (u:=vI (Option.getD (nX (d.1,((at' (at' f d.1) e.1).1)) e.2) (0:Int))) Pw Z Z Z Z Z (by cases nX ((d.1,((at' (at' f d.1) e.1).1))) e.2<;>rfl)) Z ?_;refine aA Z<|eQ Z<|eQ Z<|aB Z<|aB Z<|aL<|aR<|aA Z<|aL ?_;refine tT h Z (λ_ h=>?_) λ_ h=>?_
     ·refine aR<|aB Z<|aL<|aQ<|aI<|bG<|aI<|aI<|bG<|bG<|aI<|aI<|bG<|aI ?_;cases h;exact oA Z
     refine cE<|aO<|aA Z<|cM 0 Z<|bN Z<|dL 1 Z<|Qy 2 ((d.1,((at' (at' f d.1) e.1).1))) ((at' (at' f d.1) e.1).2) Pw Z Z Z Z Z<|eN<|jH<|aO<|cD Z<|aA Z<|aL ?_;exact nC ((wI .i64 (e.1+(1:Int))),(ES (d.1,((at' (at' f d.1) e.1).1)) ((at' (at' f d.1) e.1).2) e.2)) () h SF (bA.ix [2] Z Z) (aG.refl _ _)
    refine qC<|eZ<|eZ<|wQ<|jH ?_;exact eW (e.2) () h SF Z
   intro m z h;unfold oI at h;refine aO<|cD Z<|aA Z<|aL ?_;exact tV ((wI .i64 (d.1+(1:Int))),m) () h SF Z
  refine eS ?_;exact eW (d.2) () h SF Z
 intro q H h;unfold jU at h;refine aK<|aR<|aA Z<|aH (aN.range 0 Z Z Z) Z λI=>aL<|aS<|aaX [(3,Value.map (some k)),(69,vP I)] [It I k (q.length) ([]),Mp o_ SA k q] [S2 bD n F f] SF (bA.refl _) (aG.refl _ _) ?_;refine Wi (yS q) 1 0 (by intro a b x;unfold yS;repeat' split;all_goals first|rfl|contradiction|simp_all) h Z Z Z Z Z Z ?_ ?_
 ·skip
  intro g N G M v h;refine aS<|aR<|aH (aN.entry 1 0 v Z Z Z) Z λL=>eQ Z<|eQ Z<|aH (aN.alloc (cs:=XA) Z Z) Z λJ=>bF 0 (vs:=[vI (g.1.1),vI (g.1.2)]) Z Z Z Z Z Z<|aB Z<|aL<|aR<|aA Z ?_;refine aC (lM (i:=1) Z Z Z Z Z (by decide)) Z ?_;refine dL 0 Z ?_;refine aC (lM (i:=0) Z Z Z Z Z (by decide)) Z ?_;refine dL 0 Z ?_;refine aC (FK (r:=Value.agg #[vI (g.1.2),vI (g.1.1)]) Z Z (by intro w;simp[Instr.build,Instr.fill,cT,b_,bW,cU,cV,cA,dJ])) Z ?_;refine aC (QX 2 ((g.1.2,g.1.1)) (u:=vI (Option.getD (nX (g.1.2,g.1.1) q) (0:Int))) Pw Z Z Z Z Z (by cases nX ((g.1.2,g.1.1)) q<;>rfl)) Z ?_;refine aA Z<|jQ Z<|aL ?_;refine d_ h Z (λh=>?_) λh=>?_
  ·refine aR<|aB Z<|aL<|aQ<|bG<|aI<|bG<|aI ?_;cases h;exact oA Z
  refine dM<|jH ?_;exact Tb h SF (bA.ix [1,2] Z Z) (aG.refl _ _)
 intro G h;refine wQ<|Cd<|aR<|aB Z<|aL<|aQ ?_;cases h;exact oA Z
def rC  (a:Bool):Option Bool:=
 some (a)
def rB (U:Nat) (b:cW) (c:Bool):Option Bool:=
 if c=true then(some (false))else(Option.bind (kB U b.1) λd=>(if d=true then(Option.bind (iB U b.2) λa=>(rC  (a)))else(rC  (false))))
def jJ (U:Nat) (a:cW):Option Bool:=
 if(a.1.length:Int)<(1:Int)then(rB U a (true))else(if(24:Int)<(a.1.length:Int)then(rB U a (true))else(rB U a (decide ((a.2.length:Int)≠(a.1.length:Int)))))
theorem Tz:aV Tryz.prog 75:=Tryz.call75
theorem DO (U:Nat) {p0:cW} (f:Value)  (g:Value)  (o:iX) (r:Bool) (h:jJ U p0=some r):
  aW Tryz.prog 75 #[Value.agg #[f,g]] [Sl bX f p0.1,S2 bD g o p0.2] (λx:Unit=>vB (r)) (λx l=>l) (λ_ l=>l):=by
 refine aW.of Tryz.func75 Z Tryz.ntmps75 Z λc=>?_;refine aR<|aH (aN.box (cs:=[f,g]) Z Z) Z λk=>aB Z<|aL<|aR<|bN Z<|dL 0 Z<|iF (aD.fact 0 Z) Z<|aB Z<|aL<|aK<|aK<|dK (λb=>rB U p0 b=some r) (λb m=>[(1,vP k),(19,vB (b))]) (λb m=>[cJ k [f,g] 29]) ?_ ?_
 ·refine aO<|aA Z<|cZ Z<|aA Z ?_;refine wN h Z (λ_ h=>?_) λ_ h=>?_
  ·refine aE Z<|aE Z<|dA Z<|aA Z<|aE Z<|aE Z<|aE Z<|aE Z<|aE Z<|dA Z<|aL ?_;exact eW (true) () h SF Z
  refine bZ Z<|aM Z (uE Z Z) Z<|c_ Z<|aA Z ?_;refine wN h Z (λ_ h=>?_) λ_ h=>?_
  ·refine aE Z<|aE Z<|aE Z<|aE Z<|aE Z<|dA Z<|aL ?_;exact eW (true) () h SF Z
  refine aM Z (cQ Z Z Z Z Z) Z<|aM Z (dN 0 Z Z Z Z Z) Z<|aM Z (gM Z (aD.fact 1 Z) Z) Z<|bZ Z<|aM Z (Dd Z Z) Z<|c_ Z<|aL ?_;exact eW (decide ((p0.2.length:Int)≠(p0.1.length:Int))) () h SF Z
 intro b m h;refine tT h Z (λ_ h=>?_) λ_ h=>?_
 ·refine aR<|aB Z<|aL<|aQ<|aI ?_;cases h;exact oA Z
 refine cE<|aK<|dK (λd=>rC  d=some r) (λd n=>[(2,vB (d))]) (λd n=>[]) ?_ ?_
 ·refine aO<|bN Z<|dL 0 Z<|dZ h λp i h=>aH (zBg abt (Gl U f p i) Z (jP [0] Z)) Z λq=>aA Z ?_;refine rZ (by exact rfl) (by exact rfl) (λa=>?_) (λa=>?_)
  ·have h:=LS a h;refine aM Z (cQ Z Z Z Z Z) Z<|aM Z (dN 0 Z Z Z Z Z) Z<|dZ h λe j h=>kJ Z (zBg abu (IY U g o e j) Z (jP [1] Z)) Z λs=>dA Z<|aB Z<|aL ?_;exact bU (e) () h SF .nil (aG.refl _ _)
  have h:=HU a h;refine aE Z<|aE Z<|aE Z<|c_ Z<|aB Z<|aL ?_;exact bU (false) () h SF .nil (aG.refl _ _)
 intro d n h;unfold rC at h;refine aQ ?_;cases h;exact fW Z
def sX  (a:Int):Option (Int):=
 some (a)
def gT (U:Nat) (b:Int) (a:Int):Option (Int):=
 if a<(1:Int)then(some (0:Int))else(ck (a≠0) (if(Int.tmod b a)<(0:Int)then(sX  (wI .i64 ((Int.tmod b a)+a)))else(sX  (Int.tmod b a))))
theorem EG:aV Tryz.prog 12:=Tryz.call12
theorem kN (U:Nat) {d:Int} {b:Int} (r:Int) (h:gT U d b=some r):
  aW Tryz.prog 12 #[vI (d),vI (b)] [] (λx:Unit=>vI (r)) (λx l=>l) (λ_ l=>l):=by
 refine aW.of Tryz.func12 Z Tryz.ntmps12 Z λc=>?_;refine aR<|aB Z<|aL<|aK<|aR<|aA Z<|cZ Z<|aL ?_;refine d_ h Z (λh=>?_) λh=>?_
 ·refine aR<|aB Z<|aL<|aQ<|aI ?_;cases h;exact fW Z
 refine cE<|aR<|aA Z<|aA Z<|dW h λf h=>aC (NO Z Z f) Z<|aB Z<|aL<|aK<|dK (λa=>sX  a=some r) (λa e=>[(0,vI (a))]) (λa e=>[]) ?_ ?_
 ·refine aR<|aA Z<|cZ Z<|aL ?_;refine d_ h Z (λh=>?_) λh=>?_
  ·refine aO<|aA Z<|aA Z<|cD Z<|aB Z<|aL ?_;exact eW (wI .i64 ((Int.tmod d b)+b)) () h SF Z
  refine cE ?_;exact eW (Int.tmod d b) () h SF Z
 intro a e h;unfold sX at h;refine aR<|aA Z<|aB Z<|aL<|aQ ?_;cases h;exact fW Z
def uM (U:Nat) (b:aX) (a:Int):Option (Int):=
 if a<(b.length:Int)then(ck (0<=a∧a<(b.length:Int)) (some (at' b a)))else(some (0:Int))
theorem Lt:aV Tryz.prog 33:=Tryz.call33
theorem CZ (U:Nat) {b:aX} {d:Int} (e:Value) (r:Int) (h:uM U b d=some r):
  aW Tryz.prog 33 #[e,vI (d)] [Sl bX e b] (λx:Unit=>vI (r)) (λx l=>l) (λ_ l=>l):=by
 refine aW.of Tryz.func33 Z Tryz.ntmps33 Z λc=>?_;refine aR<|aB Z<|aL<|aK<|aR<|aA Z<|aA Z<|iF (aD.fact 0 Z) Z<|cZ Z<|aL ?_;refine d_ h Z (λh=>?_) λh=>?_
 ·refine aR<|aA Z<|aA Z<|dW h λa h=>aC (a_ Z Z (aD.fact 0 Z) Z Z a) Z<|aC (bY Z (aD.fact 0 Z) Z Z Z eH a) Z<|aB Z<|aL<|aQ<|aI ?_;cases h;exact fW Z
 refine cE<|aR<|aB Z<|aL<|aQ ?_;cases h;exact fW Z
def pU (b:Int) (a:aX):Option uZ:=
 some ((a,(List.replicate (Int.toNat (wI .i64 ((1:Int)+b))) ([]:eY))))
def uG (a:qA) (c:wF->Option uZ) (b:Int):Option uZ:=
 ck ((a.2.length:Int)+(List.length ([b]):Int)<=1099511627) (c ((wI .i64 (a.1+(1:Int))),(a.2++[b])))
def mE (b:gC->Option uZ) (a:eL):Option uZ:=
 b (a.1,(wI .i64 (a.2+(1:Int))))
def mF (b:qA) (d:wF->Option uZ) (a:eL) (c:gC->Option uZ):Option uZ:=
 if a.2<b.1 then(ck (0<=a.2∧a.2<(b.2.length:Int)) (if(at' b.2 a.2)=a.1 then(ck ((256:Int)≠0) (mE c ((Int.tmod (wI .i64 (a.1+(1:Int))) (256:Int)),(-1:Int))))else(mE c (a.1,a.2))))else(uG b d (a.1))
def jY (U:Nat) (f:Es) (e:Int) (a:qA) (b:wF->Option uZ):Option uZ:=
 if a.1<(wI .i64 ((1:Int)+e))then(Option.bind (uM U f.2.2.2.1 a.1) λc=>(Option.bind (gT U c (256:Int)) λd=>(bK (mF a b) U (d,(0:Int)))))else(pU e (a.2))
def nG (U:Nat) (b:Es) (c:Int):Option uZ:=
 Option.bind (gT U (wI .i64 (b.1 - (1:Int))) c) λa=>(ck (0<=(wI .i64 ((1:Int)+a))∧(wI .i64 ((1:Int)+a))<=1099511627) (bK (jY U b a) U ((0:Int),([]:aX))))
theorem Yq:aV Tryz.prog 29:=Tryz.call29
theorem Cb (U:Nat) {d:Es} {S:Int} (y:Value)  (z:Value)  (u:Value) (r:Fv) (h:nG U d S=some r):
  aW Tryz.prog 29 #[Value.agg #[vI (d.1),y,z,u,vB (d.2.2.2.2.1),vB (d.2.2.2.2.2)],vI (S)] [Sl bX y d.2.1,Sl bX z d.2.2.1,Sl bX u d.2.2.2.1] (λx:Ss=>Value.agg #[x.1,x.2.1]) (λx l=>Ar cS x.1 r.1::Ar fE.raw x.2.1 x.2.2::k_ dO x.2.2 r.2::l) (λ_ l=>l):=by
 refine aW.of Tryz.func29 Z Tryz.ntmps29 Z λc=>?_;refine aR<|aH (aN.box (cs:=[vI (d.1),y,z,u,vB (d.2.2.2.2.1),vB (d.2.2.2.2.2)]) Z Z) Z λt=>aH (aN.alloc (cs:=[lL,lL]) Z Z) Z λq=>aL<|aR<|bN Z<|dL 1 Z<|aC (lO Z Z) Z<|aA Z<|dZ h λb W h=>aH (zBg EG (kN U  b W) Z .nil) Z λx5=>cD Z<|aB Z<|aL<|aR<|aA Z<|dW h λT h=>gF (BB dO (Int.toNat (wI .i64 ((1:Int)+b))))<|aH (r_ (e:=fE.raw) (lL) Z Z Z Z T Z Z Z) Z λn=>bE (Know.one (aD.sl (bB (i:=0) (j:=1) Z Z cG))) λK=>?_;refine aC (Tl (r:=Value.agg #[lL,n]) Z (by intro w;simp[Instr.build,Instr.fill,cT,b_,bW,cU,cV,cA,dJ,cI K])) Z ?_;refine aH (aN.alloc (cs:=[lL,lL]) Z Z) Z λs=>bE (Know.one (aD.sl (bB (i:=1) (j:=2) Z Z cG))) λE=>bF 0 (vs:=[lL,n]) Z Z (bR Z (bR E Z)) Z Z Z<|aL<|aK<|CM (B:=Value) (λp=>pU b p=some r) (λp o=>[(4,vP q),(6,vP s)]) (λp o=>[cJ s [o,n] 29,Ar fE.raw n (List.replicate (Int.toNat (wI .i64 ((1:Int)+b))) (lL)),k_ dO (List.replicate (Int.toNat (wI .i64 ((1:Int)+b))) (lL)) (List.replicate (Int.toNat (wI .i64 ((1:Int)+b))) ([]:eY)),cJ q [lL,lL] 29,Ar cS o p]) ?_ ?_
 ·refine aR<|aB Z<|aL<|aS<|gF (cK cS)<|eB (B:=Value) (jY U d b) (λa f=>[(2,vP t),(4,vP q),(5,vI (wI .i64 ((1:Int)+b))),(6,vP s),(7,vI (a.1))]) (λa f=>[cJ s [f,n] 29,Ar fE.raw n (List.replicate (Int.toNat (wI .i64 ((1:Int)+b))) (lL)),k_ dO (List.replicate (Int.toNat (wI .i64 ((1:Int)+b))) (lL)) (List.replicate (Int.toNat (wI .i64 ((1:Int)+b))) ([]:eY)),cJ q [lL,lL] 29,cJ t [vI (d.1),y,z,u,vB (d.2.2.2.2.1),vB (d.2.2.2.2.2)] 24,Ar cS f a.2]) ((0:Int),([]:aX)) (lL) h SF (bA.ix [1,2,3,4,5,0] Z Z) ?_;intro v a f h;refine aK<|aR<|aA Z<|aA Z<|cZ Z<|aL ?_;refine d_ h Z (λh=>?_) λh=>?_
  ·refine cE<|aK<|aS<|aR<|bN Z<|dL 4 Z<|aA Z<|dZ h λO Q h=>aH (zBg Lt (CZ U u O Q) Z (jP [2] Z)) Z λX=>dZ h λJ R h=>aH (zBg EG (kN U  J R) Z .nil) Z λY=>aB Z<|aL<|aK<|dK (λg=>uG a (bK (jY U d b) v) g=some r) (λg A=>[(2,vP t),(4,vP q),(5,vI (wI .i64 ((1:Int)+b))),(6,vP s),(7,vI (a.1)),(8,vI (g))]) (λg A=>[cJ s [f,n] 29,Ar fE.raw n (List.replicate (Int.toNat (wI .i64 ((1:Int)+b))) (lL)),k_ dO (List.replicate (Int.toNat (wI .i64 ((1:Int)+b))) (lL)) (List.replicate (Int.toNat (wI .i64 ((1:Int)+b))) ([]:eY)),cJ q [lL,lL] 29,cJ t [vI (d.1),y,z,u,vB (d.2.2.2.2.1),vB (d.2.2.2.2.2)] 24,Ar cS f a.2]) ?_ ?_
   ·refine aR<|aB Z<|aL<|aS<|eB (mF a (bK (jY U d b) v)) (λk C=>[(2,vP t),(4,vP q),(5,vI (wI .i64 ((1:Int)+b))),(6,vP s),(7,vI (a.1)),(8,vI (k.1)),(9,vI (k.2))]) (λk C=>[cJ s [f,n] 29,Ar fE.raw n (List.replicate (Int.toNat (wI .i64 ((1:Int)+b))) (lL)),k_ dO (List.replicate (Int.toNat (wI .i64 ((1:Int)+b))) (lL)) (List.replicate (Int.toNat (wI .i64 ((1:Int)+b))) ([]:eY)),cJ q [lL,lL] 29,cJ t [vI (d.1),y,z,u,vB (d.2.2.2.2.1),vB (d.2.2.2.2.2)] 24,Ar cS f a.2]) (J,(0:Int)) () h SF (bA.refl _) ?_;intro N k C h;refine aK<|aR<|aA Z<|aA Z<|cZ Z<|aL ?_;refine d_ h Z (λh=>?_) λh=>?_
    ·refine cE<|aK<|dK (λm=>mE (bK (mF a (bK (jY U d b) v)) N) m=some r) (λm D=>[(2,vP t),(4,vP q),(5,vI (wI .i64 ((1:Int)+b))),(6,vP s),(7,vI (a.1)),(8,vI (m.1)),(9,vI (m.2))]) (λm D=>[cJ s [f,n] 29,Ar fE.raw n (List.replicate (Int.toNat (wI .i64 ((1:Int)+b))) (lL)),k_ dO (List.replicate (Int.toNat (wI .i64 ((1:Int)+b))) (lL)) (List.replicate (Int.toNat (wI .i64 ((1:Int)+b))) ([]:eY)),cJ q [lL,lL] 29,cJ t [vI (d.1),y,z,u,vB (d.2.2.2.2.1),vB (d.2.2.2.2.2)] 24,Ar cS f a.2]) ?_ ?_
     ·refine aS<|aR<|bN Z<|dL 0 Z<|aA Z<|dW h λI h=>aC (a_ Z Z (aT (aD.res 5 Z) dD) Z Z I) Z<|aC (bY Z (aT (aD.res 5 Z) dD) Z Z Z eH I) Z<|aA Z<|bS Z<|aL ?_;refine d_ h Z (λh=>?_) λh=>?_
      ·refine aO<|aA Z<|cD Z<|dW h λM h=>aC (NO Z Z M) Z<|aB Z<|aB Z<|eN<|jH ?_;exact eW ((Int.tmod (wI .i64 (k.1+(1:Int))) (256:Int)),(-1:Int)) () h SF Z
      refine dM<|jH ?_;exact eW (k.1,k.2) () h SF Z
     intro m D h;unfold mE at h;refine aO<|aA Z<|cD Z<|aB Z<|aL ?_;exact tV (m.1,(wI .i64 (m.2+(1:Int)))) () h SF Z
    refine eS ?_;exact eW (k.1) () h SF Z
   intro g A h;refine aO<|bN Z<|dL 0 Z<|aA Z<|aH (bT (e:=cS) ([g]) [(0,vI (g))] Z Z Z Z (eV (vI (g)) Z) Z Z Z) Z λV=>dW h λL h=>aH (bH 6 dD Z Z Z (aT (aD.res 0 Z) dD) Z Z Z Z L Z) Z λP=>bN Z<|bE (Know.one ((aT (aD.res 6 Z) dD))) λH=>gJ 1 Z Z H Z Z Z<|eN<|jH<|aO<|aA Z<|cD Z<|aB Z<|aL ?_;exact nC ((wI .i64 (a.1+(1:Int))),(a.2++[g])) (P) h SF (bA.ix [1,2,3,4,5,6] Z Z) (aG.refl _ _)
  refine eS ?_;exact bU (a.2) (f) h SF (bA.ix [0,1,2,3,5] Z Z) (aG.refl _ _)
 intro p o h;unfold pU at h;refine aR<|cM 0 Z<|bE (Know.one ((aT (aD.res 4 Z) dD))) λF=>bE (Know.one (aD.sl (bB (i:=1) (j:=2) Z Z cG))) λG=>bF 3 (vs:=[o,n]) Z Z (bR F (bR G Z)) Z Z Z<|aL<|aQ ?_;cases h;exact gE (o,n,(List.replicate (Int.toNat (wI .i64 ((1:Int)+b))) (lL))) Z Z (RV.cell 3 Z Z Z Z) (bA.ix [4,1,2] Z Z) aG.nil
def yN  (a:Unit):Option Bool:=
 some (false)
def B_ (c:cW) (a:Int) (e:Int) (b:Int) (d:(Int)->Option Bool):Option Bool:=
 ck (0<=a∧a<(c.2.length:Int)) (if b<((at' c.2 a).length:Int)then(ck (0<=a∧a<(c.2.length:Int)) (ck (0<=b∧b<((at' c.2 a).length:Int)) (if((at' (at' c.2 a) b).1)=e then(some (true))else(d (wI .i64 (b+(1:Int)))))))else(yN  (())))
def oS (U:Nat) (a:cW) (b:Int) (c:Int):Option Bool:=
 bK (B_ a b c) U (0:Int)
theorem abp:aV Tryz.prog 100:=Tryz.call100
theorem MM (U:Nat) {g:cW} {i:Int} {j:Int} (k:Value)  (m:Value)  (q:iX) (r:Bool) (h:oS U g i j=some r):
  aW Tryz.prog 100 #[Value.agg #[k,m],vI (i),vI (j)] [Sl bX k g.1,S2 bD m q g.2] (λx:Unit=>vB (r)) (λx l=>l) (λ_ l=>l):=by
 refine aW.of Tryz.func100 Z Tryz.ntmps100 Z λc=>?_;unfold oS at h;refine aR<|aH (aN.box (cs:=[k,m]) Z Z) Z λn=>aB Z<|aL<|aK<|dK (λd=>yN  d=some r) (λd o=>[]) (λd o=>[]) ?_ ?_
 ·refine aR<|aB Z<|aL<|aS<|eB (B_ g i j) (λe p=>[(1,vI (i)),(2,vI (j)),(3,vP n),(7,vI (e))]) (λe p=>[cJ n [k,m] 29]) (0:Int) () h SF (bA.refl _) ?_;intro s e p h;refine aK<|aR<|aA Z<|bN Z<|dL 0 Z<|aA Z<|dW h λf h=>aC (cY Z Z (aD.fact 1 Z) Z Z f) Z<|aC (cL Z (aD.fact 1 Z) Z Z f) Z<|aC (fX Z (zBi (aD.fact 1 Z) f.1 f.2) Z) Z<|cZ Z<|aL ?_;refine d_ h Z (λh=>?_) λh=>?_
  ·refine cE<|aK<|aS<|aR<|bN Z<|dL 0 Z<|aA Z<|dW h λa h=>aC (cY Z Z (aD.fact 1 Z) Z Z a) Z<|aC (cL Z (aD.fact 1 Z) Z Z a) Z<|aA Z<|dW h λb h=>aC (a_ Z Z (zBi (aD.fact 1 Z) a.1 a.2) Z Z b) Z<|aC (dX Z Z Z Z Z) Z<|aC (e_ Z (zBi (aD.fact 1 Z) a.1 a.2) Z Z Z jS b) Z<|aA Z<|bS Z<|aL ?_;refine d_ h Z (λh=>?_) λh=>?_
   ·refine aR<|aB Z<|aL<|aQ<|bG<|aI<|aI<|bG<|aI ?_;cases h;exact oA Z
   refine dM<|jH<|aO<|aA Z<|cD Z<|aB Z<|aL ?_;exact tV (wI .i64 (e+(1:Int))) () h SF Z
  refine eS ?_;exact bU () (()) h SF .nil (aG.refl _ _)
 intro d o h;unfold yN at h;refine aR<|aB Z<|aL<|aQ ?_;cases h;exact fW Z
def qN (f:Es) (c:cW) (a:Int) (b:Int) (d:Int) (e:Bool):Option (h_):=
 if e=true then(some (c.2))else(if f.2.2.2.2.2=true then(ck (0<=a∧a<(c.2.length:Int)) (ck ((List.length ([(b,d)]):Int)+((at' c.2 a).length:Int)<=1099511627) (ck (0<=a∧a<(c.2.length:Int)) (ck (0<=b∧b<((List.set c.2 (Int.toNat a) (([(b,d)])++(at' c.2 a))).length:Int)) (ck ((List.length ([(a,d)]):Int)+((at' (List.set c.2 (Int.toNat a) (([(b,d)])++(at' c.2 a))) b).length:Int)<=1099511627) (ck (0<=b∧b<((List.set c.2 (Int.toNat a) (([(b,d)])++(at' c.2 a))).length:Int)) (some (List.set (List.set c.2 (Int.toNat a) (([(b,d)])++(at' c.2 a))) (Int.toNat b) (([(a,d)])++(at' (List.set c.2 (Int.toNat a) (([(b,d)])++(at' c.2 a))) b))))))))))else(ck (0<=a∧a<(c.2.length:Int)) (ck (0<=b∧b<(c.2.length:Int)) (ck (((at' c.2 a).length:Int)+(List.length ([(b,d)]):Int)<=1099511627) (ck (((at' c.2 b).length:Int)+(List.length ([(a,d)]):Int)<=1099511627) (ck (Int.toNat a≠Int.toNat b) (ck (0<=a∧a<((List.set (List.set c.2 (Int.toNat a) ((at' c.2 a)++([(b,d)]))) (Int.toNat b) ((at' c.2 b)++([(a,d)]))).length:Int)) (ck (0<=b∧b<((List.set (List.set c.2 (Int.toNat a) ((at' c.2 a)++([(b,d)]))) (Int.toNat b) ((at' c.2 b)++([(a,d)]))).length:Int)) (some (List.set (List.set c.2 (Int.toNat a) ((at' c.2 a)++([(b,d)]))) (Int.toNat b) ((at' c.2 b)++([(a,d)]))))))))))))
def oL (U:Nat) (e:Es) (a:cW) (b:Int) (c:Int) (f:Int):Option (h_):=
 if b=c then(qN e a b c f (true))else(Option.bind (oS U ((a.1,a.2)) b c) λd=>(qN e a b c f (d)))
theorem Yx:aV Tryz.prog 62:=Tryz.call62
theorem CU (U:Nat) {s:Es} {G:cW} {f:Int} {g:Int} {d:Int} (J:Value)  (K:Value)  (L:Value)  (H:Value)  (C:Value)  (A:gV) (r:h_) (h:oL U s G f g d=some r):
  HG Tryz.prog 62 #[Value.agg #[vI (s.1),J,K,L,vB (s.2.2.2.2.1),vB (s.2.2.2.2.2)],Value.agg #[H,C],vI (f),vI (g),vI (d)] [Ar fE.raw C A,k_ dO A G.2] [Sl bX J s.2.1,Sl bX K s.2.2.1,Sl bX L s.2.2.2.1,Sl bX H G.1] (λx:gV=>Value.tuple #[]) (λx l=>Ar fE.raw C x::k_ dO x r::l):=by
 refine HG.of (vs:=[Value.agg #[vI (s.1),J,K,L,vB (s.2.2.2.2.1),vB (s.2.2.2.2.2)],Value.agg #[H,C],vI (f),vI (g),vI (d)]) Tryz.func62 Z Tryz.ntmps62 Z λc=>?_;refine aR<|aH (aN.box (cs:=[vI (s.1),J,K,L,vB (s.2.2.2.2.1),vB (s.2.2.2.2.2)]) Z Z) Z λb1=>aH (aN.box (cs:=[H,C]) Z Z) Z λb2=>aL<|aK<|aK<|FE (B:=Unit) (λI=>qN s G f g d I=some r) (λI b5=>[(2,vI (f)),(3,vI (g)),(4,vI (d)),(5,vP b1),(6,vP b2),(20,vB (I))]) (λI b5=>[cJ b2 [H,C] 29,cJ b1 [vI (s.1),J,K,L,vB (s.2.2.2.2.1),vB (s.2.2.2.2.2)] 24,Ar fE.raw C A,k_ dO A G.2]) (λI b5=>[Sl bX J s.2.1,Sl bX K s.2.2.1,Sl bX L s.2.2.2.1,Sl bX H G.1]) ?_ ?_
 ·refine aO<|aA Z<|aA Z<|bS Z<|aA Z ?_;refine wN h Z (λ_ h=>?_) λ_ h=>?_
  ·refine aE Z<|aE Z<|aE Z<|aE Z<|dA Z<|aL ?_;exact eW (true) () h SF Z
  refine aM Z (lN 0 Z Z Z Z) Z<|bZ Z<|bZ Z<|dZ h λav au h=>kJ Z (zBg abp (MM U H C (List.zip A G.2) av au) Z (aG.cons (aD.fact 3 Z) (aG.cons (bB (i:=2) (j:=3) Z Z cG) .nil))) Z λba=>c_ Z<|aL ?_;exact eW (av) () h SF Z
 intro I b5 h;refine tT h Z (λ_ h=>?_) λ_ h=>?_
 ·refine aQ<|aI ?_;cases h;exact Gw (A) Z Z .ret (.inl Z) (bA.ix [2,3] Z Z) aG.nil
 refine cE<|aR<|aA Z<|aA Z ?_;refine aC (FK (r:=Value.agg #[vI (g),vI (d)]) Z Z (by intro w;simp[Instr.build,Instr.fill,cT,b_,bW,cU,cV,cA,dJ])) Z ?_;refine aA Z<|aA Z ?_;refine aC (FK (r:=Value.agg #[vI (f),vI (d)]) Z Z (by intro w;simp[Instr.build,Instr.fill,cT,b_,bW,cU,cV,cA,dJ])) Z ?_;refine aH (aN.alloc (cs:=XA) Z Z) Z λb7=>aH (aN.alloc (cs:=XA) Z Z) Z λb8=>bF 1 (vs:=[vI (g),vI (d)]) Z Z Z Z Z Z<|bF 0 (vs:=[vI (f),vI (d)]) Z Z Z Z Z Z<|aL<|aK<|aR<|bN Z<|dL 3 Z<|aL ?_;refine tT h Z (λ_ h=>?_) λ_ h=>?_
 ·refine aK ?_;refine JR.start [0,1,0,0,8,0,32,0,224,480,1016,2047,4095] 11 mixedOrders (by decide +kernel) ?_;refine zBj (by exact rfl) ?_;refine cB Z<|fD 2 Z<|aY Z<|gK 1 Z<|zBh Z Z Z (bT (e:=dO) ([((g,d))]) [(0,Value.agg #[vI (g),vI (d)])] Z Z Z Z (BG (vI (g)) (vI (d))) Z Z Z) Z (λaW=>(kG [([3],[])] Z)) λaW=>iY Z (cQ Z Z Z Z Z)<|bM Z (bA.cons 3 Z .nil) .nil (dN 0 Z Z Z Z Z) (aU.h (bA.ix [2] Z Z) .nil aU.z)<|iY Z (oC Z)<|dW h λu h=>gG (eT 6 Z) λM=>?_;refine bM Z (bA.cons 5 Z .nil) .nil (lD 0 Z Z Z Z Z u.1 (by have m:=u.2;have n:=M;(try simp only[zA2]at m);(try simp only[zA2]at n);(try simp only[zA2]);omega)) (aU.h (bA.ix [4] Z Z) .nil aU.z) ?_;refine gG (eT 6 Z) λN=>bM Z (bA.cons 5 Z .nil) .nil (qV 0 Z Z N Z Z u) (aU.h (bA.ix [4] Z Z) .nil aU.z)<|dW h λaS h=>zBh Z Z Z (bH 0 cG Z Z Z (aD.row (j:=6) Z cG u.1 u.2) Z Z Z Z aS Z) Z (λaw=>(kG [([3],[])] Z)) λaw=>bP 11 Z Z<|dW h λv h=>aC (cY Z Z (bB (i:=5) (j:=6) Z Z cG) Z Z v) Z<|bE (Know.one ((aT (aD.res 0 Z) cG))) λak=>gF (yQ (k:=f) 6 0 Z Z Z v) ?_;refine qD 4 5 ⟨v.1,by first|exact v.2|simpa using v.2⟩ Z Z Z Z Z (by simp) ak Z ?_;refine aL<|aK ?_;refine JR.start [0,1,0,0,8,0,32,0,224,480,1016,2047,4095] 11 mixedOrders (by decide +kernel) ?_;refine zBj (by exact rfl) ?_;refine cB Z<|fD 2 Z<|aY Z<|gK 0 Z<|zBh Z Z Z (bT (e:=dO) ([((f,d))]) [(0,Value.agg #[vI (f),vI (d)])] Z Z Z Z (BG (vI (f)) (vI (d))) Z Z Z) Z (λaX=>(kG [([3],[])] Z)) λaX=>iY Z (cQ Z Z Z Z Z)<|bM Z (bA.cons 3 Z .nil) .nil (dN 0 Z Z Z Z Z) (aU.h (bA.ix [2] Z Z) .nil aU.z)<|iY Z (oC Z)<|dW h λt h=>gG (eT 6 Z) λO=>?_;refine bM Z (bA.cons 5 Z .nil) .nil (lD 0 Z Z Z Z Z t.1 (by have m:=t.2;have n:=O;(try simp only[zA2]at m);(try simp only[zA2]at n);(try simp only[zA2]);omega)) (aU.h (bA.ix [4] Z Z) .nil aU.z) ?_;refine gG (eT 6 Z) λP=>bM Z (bA.cons 5 Z .nil) .nil (qV 0 Z Z P Z Z t) (aU.h (bA.ix [4] Z Z) .nil aU.z)<|dW h λaV h=>zBh Z Z Z (bH 0 cG Z Z Z (aD.row (j:=6) Z cG t.1 (by first|exact t.2|simpa using t.2)) Z Z Z Z aV Z) Z (λax=>(kG [([3],[])] Z)) λax=>?_;refine bP 11 Z Z<|dW h λy h=>aC (cY Z Z (bB (i:=5) (j:=6) Z Z cG) Z Z y) Z<|bE (Know.one ((aT (aD.res 0 Z) cG))) λal=>gF (yQ (k:=g) 6 0 Z Z Z y) ?_;refine qD 4 5 ⟨y.1,by first|exact y.2|simpa using y.2⟩ Z Z Z Z Z (by simp) al Z ?_;refine aL<|aQ<|aI ?_;cases h;exact Gw (List.set (List.set A (Int.toNat f) aw) (Int.toNat g) ax) Z Z .ret (.inl Z) (bA.ix [4,5] Z Z) aG.nil
 refine cE<|dW h λp h=>dW h λq h=>dW h λD h=>dW h λE h=>dW h λF h=>dW h λa h=>dW h λb h=>NH [0,1,0,0,8,0,0,64,0,448,960,0,2048,8128,0,16384,0,114688,245760,0,524288,2097088,4194247,8388551,16777215,33554431] 24 [[0,1,2,3,4,5,6,7,8,9,10,11,14,15,16,17,18,19,12,13,20,21,22,23,24,25],[0,1,2,3,4,5,6,7,8,9,10,11,14,15,16,17,18,19,12,20,13,21,22,23,24,25],[0,1,2,3,4,5,6,7,8,9,10,11,14,15,16,17,18,19,20,12,13,21,22,23,24,25]] mixedOrders (by decide +kernel) (by decide +kernel) ?_;intro o ho;simp only[zAl,List.not_mem_nil,or_false]at ho;rcases ho with rfl|rfl|rfl
 ·refine cB Z<|fD 2 Z<|aY Z<|cB Z<|fD 2 Z<|aY Z<|cB Z<|fD 2 Z<|aY Z<|gG (eT 5 Z) λQ=>?_;refine bM Z (bA.cons 4 Z .nil) .nil (lD 0 Z Z Z Z Z p.1 (by have m:=p.2;have n:=Q;(try simp only[zA2]at m);(try simp only[zA2]at n);(try simp only[zA2]);omega)) aU.z ?_;refine gG (eT 5 Z) λR=>bM Z (bA.cons 4 Z .nil) .nil (qV 0 Z Z R Z Z p) aU.z<|gK 1 Z<|cB Z<|fD 2 Z<|aY Z<|gG (eT 5 Z) λS=>?_;refine bM Z (bA.cons 4 Z .nil) .nil (lD 0 Z Z Z Z Z q.1 (by have m:=q.2;have n:=S;(try simp only[zA2]at m);(try simp only[zA2]at n);(try simp only[zA2]);omega)) aU.z ?_;refine gG (eT 5 Z) λT=>bM Z (bA.cons 4 Z .nil) .nil (qV 0 Z Z T Z Z q) aU.z<|gK 0 Z<|zBh Z Z Z (bT (e:=dO) ([((g,d))]) [(0,Value.agg #[vI (g),vI (d)])] Z Z Z Z (BG (vI (g)) (vI (d))) Z Z Z) Z (λa0=>(kG [([1],[]),([5],[]),([5],[]),([3],[]),([5],[]),([5],[]),([3],[]),([3],[]),([3],[])] Z)) λa0=>zBh Z Z Z (sI 6 cG Z Z Z (aT (aD.res 0 Z) cG) Z Z Z Z p D Z) Z (λay=>(kG [([1],[]),([5],[]),([5],[]),([3],[]),([3],[]),([3],[])] Z)) λay=>zBh Z Z Z (bT (e:=dO) ([((f,d))]) [(0,Value.agg #[vI (f),vI (d)])] Z Z Z Z (BG (vI (f)) (vI (d))) Z Z Z) Z (λa1=>(kG [([6],[]),([6],[]),([4],[]),([3],[]),([6],[]),([6],[]),([4],[]),([4],[]),([4],[])] Z)) λa1=>zBh Z Z Z (BO (j:=f) 7 cG Z Z Z (aT (aD.res 0 Z) cG) Z Z Z Z q E Z F) Z (λaz=>(kG [([4],[]),([4],[])] Z)) λaz=>gG (eT 7 Z) λV=>?_;refine bM Z (bA.cons 6 Z .nil) .nil (lD 0 Z Z Z Z Z a.1 (by have m:=a.2;have n:=V;(try simp only[zA2]at m);(try simp only[zA2]at n);(try simp only[zA2]);omega)) (hkI Z) ?_;refine gG (Ew (k:=f) (j:=g) 7 Z (by omega) ⟨a.1,by first|exact a.2|simpa using a.2⟩) λam=>?_;refine FG Z Z Z (Dq 6 7 ⟨a.1,by first|exact a.2|simpa using a.2⟩ Z Z Z Z (by simp) am Z) (λa7=>(kG [([4],[])] Z)) λa7=>?_;refine bP 24 Z Z<|bE (eT 7 Z) λW=>?_;refine aC (lD 6 Z Z Z Z Z b.1 (by have m:=b.2;have n:=W;(try simp only[zA2]at m);(try simp only[zA2]at n);(try simp only[zA2]);omega)) Z ?_;refine bE (Dc 7 (k:=g) Z ⟨b.1,by first|exact b.2|simpa using b.2⟩) λan=>?_;refine qD 6 7 ⟨b.1,by first|exact b.2|simpa using b.2⟩ Z Z Z Z Z (by simp) an Z ?_;refine eN ?_;cases h;exact Gw (List.set (List.set A (Int.toNat f) ay) (Int.toNat g) az) Z Z .normal (.inr Z) (bA.ix [6,7] Z Z) aG.nil
 ·refine cB Z<|fD 2 Z<|aY Z<|cB Z<|fD 2 Z<|aY Z<|cB Z<|fD 2 Z<|aY Z<|gG (eT 5 Z) λX=>?_;refine bM Z (bA.cons 4 Z .nil) .nil (lD 0 Z Z Z Z Z p.1 (by have m:=p.2;have n:=X;(try simp only[zA2]at m);(try simp only[zA2]at n);(try simp only[zA2]);omega)) aU.z ?_;refine gG (eT 5 Z) λY=>bM Z (bA.cons 4 Z .nil) .nil (qV 0 Z Z Y Z Z p) aU.z<|gK 1 Z<|cB Z<|fD 2 Z<|aY Z<|gG (eT 5 Z) λaa=>?_;refine bM Z (bA.cons 4 Z .nil) .nil (lD 0 Z Z Z Z Z q.1 (by have m:=q.2;have n:=aa;(try simp only[zA2]at m);(try simp only[zA2]at n);(try simp only[zA2]);omega)) aU.z ?_;refine gG (eT 5 Z) λab=>bM Z (bA.cons 4 Z .nil) .nil (qV 0 Z Z ab Z Z q) aU.z<|gK 0 Z<|zBh Z Z Z (bT (e:=dO) ([((g,d))]) [(0,Value.agg #[vI (g),vI (d)])] Z Z Z Z (BG (vI (g)) (vI (d))) Z Z Z) Z (λa2=>(kG [([1],[]),([5],[]),([5],[]),([3],[]),([5],[]),([5],[]),([3],[]),([3],[]),([3],[])] Z)) λa2=>zBh Z Z Z (bT (e:=dO) ([((f,d))]) [(0,Value.agg #[vI (f),vI (d)])] Z Z Z Z (BG (vI (f)) (vI (d))) Z Z Z) Z (λa3=>(kG [([6],[]),([6],[]),([4],[]),([3],[]),([6],[]),([6],[]),([4],[]),([4],[]),([4],[])] Z)) λa3=>zBh Z Z Z (sI 7 cG Z Z Z (aT (aD.res 1 Z) cG) Z Z Z Z p D Z) Z (λaB=>(kG [([2],[]),([6],[]),([6],[]),([4],[]),([4],[]),([4],[])] Z)) λaB=>zBh Z Z Z (BO (j:=f) 7 cG Z Z Z (aT (aD.res 0 Z) cG) Z Z Z Z q E Z F) Z (λaF=>(kG [([4],[]),([4],[])] Z)) λaF=>gG (eT 7 Z) λac=>?_;refine bM Z (bA.cons 6 Z .nil) .nil (lD 0 Z Z Z Z Z a.1 (by have m:=a.2;have n:=ac;(try simp only[zA2]at m);(try simp only[zA2]at n);(try simp only[zA2]);omega)) (hkI Z) ?_;refine gG (Ew (k:=f) (j:=g) 7 Z (by omega) ⟨a.1,by first|exact a.2|simpa using a.2⟩) λao=>?_;refine FG Z Z Z (Dq 6 7 ⟨a.1,by first|exact a.2|simpa using a.2⟩ Z Z Z Z (by simp) ao Z) (λa8=>(kG [([4],[])] Z)) λa8=>?_;refine bP 24 Z Z<|bE (eT 7 Z) λad=>?_;refine aC (lD 6 Z Z Z Z Z b.1 (by have m:=b.2;have n:=ad;(try simp only[zA2]at m);(try simp only[zA2]at n);(try simp only[zA2]);omega)) Z ?_;refine bE (Dc 7 (k:=g) Z ⟨b.1,by first|exact b.2|simpa using b.2⟩) λap=>?_;refine qD 6 7 ⟨b.1,by first|exact b.2|simpa using b.2⟩ Z Z Z Z Z (by simp) ap Z ?_;refine eN ?_;cases h;exact Gw (List.set (List.set A (Int.toNat f) aB) (Int.toNat g) aF) Z Z .normal (.inr Z) (bA.ix [6,7] Z Z) aG.nil
 refine cB Z<|fD 2 Z<|aY Z<|cB Z<|fD 2 Z<|aY Z<|cB Z<|fD 2 Z<|aY Z<|gG (eT 5 Z) λae=>?_;refine bM Z (bA.cons 4 Z .nil) .nil (lD 0 Z Z Z Z Z p.1 (by have m:=p.2;have n:=ae;(try simp only[zA2]at m);(try simp only[zA2]at n);(try simp only[zA2]);omega)) aU.z ?_;refine gG (eT 5 Z) λaf=>bM Z (bA.cons 4 Z .nil) .nil (qV 0 Z Z af Z Z p) aU.z<|gK 1 Z<|cB Z<|fD 2 Z<|aY Z<|gG (eT 5 Z) λag=>?_;refine bM Z (bA.cons 4 Z .nil) .nil (lD 0 Z Z Z Z Z q.1 (by have m:=q.2;have n:=ag;(try simp only[zA2]at m);(try simp only[zA2]at n);(try simp only[zA2]);omega)) aU.z ?_;refine gG (eT 5 Z) λah=>bM Z (bA.cons 4 Z .nil) .nil (qV 0 Z Z ah Z Z q) aU.z<|gK 0 Z<|zBh Z Z Z (bT (e:=dO) ([((f,d))]) [(0,Value.agg #[vI (f),vI (d)])] Z Z Z Z (BG (vI (f)) (vI (d))) Z Z Z) Z (λa5=>(kG [([5],[]),([5],[]),([3],[]),([2],[]),([5],[]),([5],[]),([3],[]),([3],[]),([3],[])] Z)) λa5=>zBh Z Z Z (bT (e:=dO) ([((g,d))]) [(0,Value.agg #[vI (g),vI (d)])] Z Z Z Z (BG (vI (g)) (vI (d))) Z Z Z) Z (λa6=>(kG [([2],[]),([6],[]),([6],[]),([4],[]),([6],[]),([6],[]),([4],[]),([4],[]),([4],[])] Z)) λa6=>zBh Z Z Z (sI 7 cG Z Z Z (aT (aD.res 0 Z) cG) Z Z Z Z p D Z) Z (λaJ=>(kG [([2],[]),([6],[]),([6],[]),([4],[]),([4],[]),([4],[])] Z)) λaJ=>zBh Z Z Z (BO (j:=f) 7 cG Z Z Z (aT (aD.res 1 Z) cG) Z Z Z Z q E Z F) Z (λaP=>(kG [([4],[]),([4],[])] Z)) λaP=>gG (eT 7 Z) λai=>?_;refine bM Z (bA.cons 6 Z .nil) .nil (lD 0 Z Z Z Z Z a.1 (by have m:=a.2;have n:=ai;(try simp only[zA2]at m);(try simp only[zA2]at n);(try simp only[zA2]);omega)) (hkI Z) ?_;refine gG (Ew (k:=f) (j:=g) 7 Z (by omega) ⟨a.1,by first|exact a.2|simpa using a.2⟩) λaq=>?_;refine FG Z Z Z (Dq 6 7 ⟨a.1,by first|exact a.2|simpa using a.2⟩ Z Z Z Z (by simp) aq Z) (λa9=>(kG [([4],[])] Z)) λa9=>?_;refine bP 24 Z Z<|bE (eT 7 Z) λaj=>?_;refine aC (lD 6 Z Z Z Z Z b.1 (by have m:=b.2;have n:=aj;(try simp only[zA2]at m);(try simp only[zA2]at n);(try simp only[zA2]);omega)) Z ?_;refine bE (Dc 7 (k:=g) Z ⟨b.1,by first|exact b.2|simpa using b.2⟩) λar=>?_;refine qD 6 7 ⟨b.1,by first|exact b.2|simpa using b.2⟩ Z Z Z Z Z (by simp) ar Z ?_;refine eN ?_;cases h;exact Gw (List.set (List.set A (Int.toNat f) aJ) (Int.toNat g) aP) Z Z .normal (.inr Z) (bA.ix [6,7] Z Z) aG.nil
def qM (b:Fv) (a:h_):Option uZ:=
 some ((b.1,a))
def wH (U:Nat) (b:Es) (i:Fv) (a:Int×h_) (c:(Int×h_)->Option uZ):Option uZ:=
 if a.1<(a.2.length:Int)then(Option.bind (uM U b.2.1 (wI .i64 (a.1 - (1:Int)))) λd=>(Option.bind (gT U d a.1) λe=>(Option.bind (uM U b.2.2.1 (wI .i64 (a.1 - (1:Int)))) λf=>(Option.bind (gT U f (15:Int)) λg=>(Option.bind (oL U ((b.1,b.2.1,b.2.2.1,b.2.2.2.1,b.2.2.2.2.1,b.2.2.2.2.2)) ((i.1,a.2)) e a.1 (wI .i64 ((1:Int)+g))) λh=>(c ((wI .i64 (a.1+(1:Int))),h)))))))else(qM i (a.2))
def oK (U:Nat) (a:Es) (c:Int):Option uZ:=
 Option.bind (nG U ((a.1,a.2.1,a.2.2.1,a.2.2.2.1,a.2.2.2.2.1,a.2.2.2.2.2)) c) λb=>(bK (wH U a b) U ((1:Int),b.2))
theorem Ys:aV Tryz.prog 40:=Tryz.call40
theorem CS (U:Nat) {p0:Es} {p1:Int} (g:Value)  (k:Value)  (n:Value) (r:Fv) (h:oK U p0 p1=some r):
  aW Tryz.prog 40 #[Value.agg #[vI (p0.1),g,k,n,vB (p0.2.2.2.2.1),vB (p0.2.2.2.2.2)],vI (p1)] [Sl bX g p0.2.1,Sl bX k p0.2.2.1,Sl bX n p0.2.2.2.1] (λx:Ss=>Value.agg #[x.1,x.2.1]) (λx l=>Ar cS x.1 r.1::Ar fE.raw x.2.1 x.2.2::k_ dO x.2.2 r.2::l) (λ_ l=>l):=by
 refine aW.of Tryz.func40 Z Tryz.ntmps40 Z λc=>?_;refine aR<|aH (aN.box (cs:=[vI (p0.1),g,k,n,vB (p0.2.2.2.2.1),vB (p0.2.2.2.2.2)]) Z Z) Z λu=>aH (aN.alloc (cs:=[lL,lL]) Z Z) Z λo=>aL<|aR<|cM 1 Z<|aA Z<|dZ h λm P h=>aH (zBg Yq (Cb U g k n m P) Z (jP [0,1,2] Z)) Z λa=>aH (aN.alloc (cs:=[lL,lL]) Z Z) Z λp=>bE (Know.one ((aT (aD.res 1 Z) dD))) λv=>bE (Know.one (aD.sl (bB (i:=2) (j:=3) Z Z cG))) λw=>bF 0 (vs:=[a.1,a.2.1]) Z Z (bR v (bR w Z)) Z Z Z<|aL<|aK<|CM (B:=gV) (λe=>qM m e=some r) (λe f=>[(4,vP o),(5,vP p)]) (λe f=>[cJ p [a.1,a.2.1] 29,Ar cS a.1 m.1,Ar fE.raw a.2.1 f,k_ dO f e,cJ o [lL,lL] 29]) ?_ ?_
 ·refine aR<|aB Z<|aL<|aS<|eB (B:=gV) (wH U p0 m) (λd b=>[(2,vP u),(4,vP o),(5,vP p),(6,vI (d.1))]) (λd b=>[cJ p [a.1,a.2.1] 29,Ar cS a.1 m.1,Ar fE.raw a.2.1 b,k_ dO b d.2,cJ o [lL,lL] 29,cJ u [vI (p0.1),g,k,n,vB (p0.2.2.2.2.1),vB (p0.2.2.2.2.2)] 24]) ((1:Int),m.2) (a.2.2) h SF (bA.refl _) ?_;intro O d b h;refine aK<|aR<|aA Z<|bN Z<|dL 0 Z<|aC (gM Z (bB (i:=2) (j:=3) Z Z cG) Z) Z<|cZ Z<|aL ?_;refine d_ h Z (λh=>?_) λh=>?_
  ·refine cE<|aK<|aS ?_;refine JR.start [0,0,0,4,0,16,60,0,252,0,0,1024,0,4096,15868,32252,65020,131071] 17 mixedOrders (by decide +kernel) ?_;refine zBj (by exact rfl) ?_;refine gK 5 Z<|gK 0 Z<|cB Z<|fD 5 Z<|aY Z<|iY Z (lO Z Z)<|dZ h λy E h=>zBh Z Z Z (zBg Lt (CZ U g y E) Z (jP [0] Z)) Z (λJ=>(kG [([0],[]),([5],[])] Z)) λJ=>iY Z (oC Z)<|dZ h λA F h=>zBh Z Z Z (zBg EG (kN U  A F) Z .nil) Z (λK=>(kG [([0],[]),([5],[])] Z)) λK=>iY Z (oC Z)<|iY Z (cQ Z Z Z Z Z)<|bM Z (bA.cons 5 Z .nil) .nil (dN 0 Z Z Z Z Z) (aU.h (bA.ix [5] Z Z) .nil (aU.h (bA.ix [5] Z Z) .nil aU.z))<|iY Z (oC Z)<|iY Z (lO Z Z)<|dZ h λC G h=>zBh Z Z Z (zBg Lt (CZ U k C G) Z (jP [1] Z)) Z (λL=>(kG [([0],[]),([5],[])] Z)) λL=>dZ h λD H h=>zBh Z Z Z (zBg EG (kN U  D H) Z .nil) Z (λM=>(kG [([0],[]),([5],[])] Z)) λM=>iY Z (yR Z Z)<|bP 17 Z Z<|dZ h λt I h=>aH (Ey (Min:=[Ar fE.raw a.2.1 b,k_ dO b d.2]) (Mr:=[cJ p [a.1,a.2.1] 29,Ar cS a.1 m.1,cJ o [lL,lL] 29,cJ u [vI (p0.1),g,k,n,vB (p0.2.2.2.2.1),vB (p0.2.2.2.2.2)] 24]) Yx (CU U g k n a.1 a.2.1 b t I) Z (bA.ix [2,3,0,1,4,5] Z Z) (aG.cons (aD.fact 0 Z) (aG.cons (aD.fact 1 Z) (aG.cons (aD.fact 2 Z) (aG.cons (aT (aD.res 1 Z) dD) .nil)))) (λ_ _=>rfl)) Z λN=>eN<|jH<|aO<|aA Z<|cD Z<|aB Z<|aL ?_;exact nC ((wI .i64 (d.1+(1:Int))),t) (N) h SF (bA.ix [2,3,0,1,4,5] Z Z) (aG.refl _ _)
  refine eS ?_;exact bU (d.2) (b) h SF (bA.ix [0,1,2,3,4] Z Z) (aG.refl _ _)
 intro e f h;unfold qM at h;refine aR<|cM 0 Z<|bE (Know.one ((aT (aD.res 1 Z) dD))) λq=>bE (Know.one (aD.sl (bB (i:=2) (j:=3) Z Z cG))) λs=>bF 4 (vs:=[a.1,a.2.1]) Z Z (bR q (bR s Z)) Z Z Z<|aL<|aQ ?_;cases h;exact gE (a.1,a.2.1,f) Z Z (RV.cell 4 Z Z Z Z) (bA.ix [1,2,3] Z Z) aG.nil
def iU (U:Nat) (a:Int):Option (Int):=
 if a=(0:Int)then(some (32:Int))else(ck (0<=(27:Int)) (ck ((0<=(mZ .u32 (wI .u32 ((eG .u32 a (wI .u32 (0 - a)))*(125613361:Int))) (27:Int))∧(mZ .u32 (wI .u32 ((eG .u32 a (wI .u32 (0 - a)))*(125613361:Int))) (27:Int))<((32:Nat):Int))∧Au.length=32) (some (wI .i64 (at' Au (mZ .u32 (wI .u32 ((eG .u32 a (wI .u32 (0 - a)))*(125613361:Int))) (27:Int)))))))
theorem Tw:aV Tryz.prog 38:=Tryz.call38
theorem sG (U:Nat) {b:Int} (r:Int) (h:iU U b=some r):
  aW Tryz.prog 38 #[vU (b)] [Gb 0 (cellsOf J_ Au)] (λx:Unit=>vI (r)) (λx l=>l) (λ_ l=>l):=by
 refine aW.of Tryz.func38 Z Tryz.ntmps38 Z λc=>?_;refine aR<|aB Z<|aL<|aK<|aR<|aA Z<|bS Z<|aL ?_;refine d_ h Z (λh=>?_) λh=>?_
 ·refine aR<|aB Z<|aL<|aQ<|aI ?_;cases h;exact fW Z
 refine cE<|aR<|aA Z<|aA Z<|aC (QY Z) Z<|wE Z<|aC (zH Z Z) Z<|dW h λd h=>aC (Iq Z Z d) Z<|dW h λa h=>aC (QV Z Z Z Z Z a.1) Z<|aC (Wo (e:=J_) Z (aD.fact 0 Z) Z Z Z Z a) Z<|aC (Cw Z Z Z) Z<|aB Z<|aL<|aQ ?_;cases h;exact fW Z
def kD  (a:Unit):Option Bool:=
 some (true)
def iA (U:Nat) (d:aX) (e:Int) (a:Int) (c:(Int)->Option Bool):Option Bool:=
 if a≠(0:Int)then(Option.bind (iU U a) λb=>(ck (0<=b∧b<(d.length:Int)) (if(eG .u32 (at' d b) e)≠(0:Int)then(some (false))else(c (eG .u32 a (wI .u32 (a - (1:Int))))))))else(kD  (()))
def nJ (U:Nat) (c:aX) (a:Int) (b:Unit):Option Bool:=
 bK (iA U c a) U (a)
def iK (U:Nat) (a:aX) (b:Int):Option Bool:=
 nJ U a b (())
theorem abK:aV Tryz.prog 173:=Tryz.call173
theorem CR (U:Nat) {m:aX} {e:Int} (j:Value) (r:Bool) (h:iK U m e=some r):
  aW Tryz.prog 173 #[j,vU (e)] [Sl wR j m,Gb 0 (cellsOf J_ Au)] (λx:Unit=>vB (r)) (λx l=>l) (λ_ l=>l):=by
 refine aW.of Tryz.func173 Z Tryz.ntmps173 Z λc=>?_;unfold iK at h;refine gF QQ<|aR<|bE (Know.one ((aD.fact 0 Z))) λw=>?_;refine aH (aN.box (cs:=[j]) Z (by rw[cI w])) Z λC=>?_;refine aH (aN.box (cs:=[vU (e)]) Z Z) Z λD=>aH (aN.alloc (cs:=[vB (false)]) Z Z) Z λu=>aL<|aK<|Tc (A:=Unit) (B:=lW) (λk g=>⟨16,LZ g⟩) (λk=>kD  k=some r) (λk g=>[(4,vP u)]) (λk g=>[cJ u [vB (false)] 4,OI g]) (λk g=>[Sl wR j m,Gb 0 (cellsOf J_ Au)]) ?_ ?_
 ·refine aR<|dL 1 Z<|HE (A:=Unit) (B:=Nat) (vs:=[vU (e)]) (λb=>nJ U m e b=some r) (λb a=>Value.func (.func 178) #[] #[vP a]) (λb a=>[cJ a [vU (e)] 26,cJ u [vB (false)] 4,cJ D [vU (e)] 26,cJ C [j] 90,OI ([]:lW)]) (λb a=>[Sl wR j m,Gb 0 (cellsOf J_ Au)]) (Ca.fn (show aV Tryz.prog 136 from Tryz.call136) Z) Tryz.func136 Z Tryz.ntmps136 Z Z ?_ ?_
  ·refine aR<|aH (aN.box (cs:=[vU (e)]) Z Z) Z λo=>aB Z<|aL<|aR<|aC (EE (cs:=[.tmp 1]) (vs:=[vP o]) Z) Z<|aB Z<|aL<|aQ ?_;exact Dp () (o) h (.inl Z) (MX.r1 Z (RV.tmp Z)) Z (bA.refl _) (aG.refl _ _)
  intro b a h;unfold nJ at h;refine aL<|aS<|Ii (i:=4) (cs:=[vP a]) ([]:lW) Z (show aV Tryz.prog 178 from Tryz.call178) Z Tryz.func178 Z Tryz.ntmps178 Z λs f v p=>aS<|eB (iA U m e) (λd n=>[(0,Aw s),(1,vP a)]) (λd n=>[Lp s v LoopState.ready none,cJ a [vU (d)] 26,cJ u [vB (false)] 4,cJ D [vU (e)] 26,cJ C [j] 90,OI (List.cons f ([]:lW))]) (e) () h SF (bA.refl _) ?_;intro E d n h;refine aK<|aR<|dL 1 Z<|jQ Z<|aL ?_;refine d_ h Z (λh=>?_) λh=>?_
  ·refine cE<|aK<|aS<|aR<|aA Z<|dL 1 Z<|dZ h λt y h=>aH (zBg Tw (sG U  t y) Z (jP [1] Z)) Z λF=>QB (us:=[vI (t)]) (i:=0) p Z Z Z Z Z Z<|aO<|aB Z<|aL<|Uv (i:=0) Z<|aS<|aK ?_;refine JR.start [0,0,3,7,0,31,63] 5 mixedOrders (by decide +kernel) ?_;refine zBj (by exact rfl) ?_;refine fD 4 Z<|aY Z<|dW h λq h=>bM Z .nil (kH 0 Z) (a_ Z Z (aD.fact 0 Z) Z Z q) aU.z<|bM Z .nil (kH 0 Z) (bY Z (aD.fact 0 Z) Z Z Z AI q) aU.z<|fD 3 Z<|bP 5 Z Z<|wE Z<|jQ Z<|aL ?_;refine d_ h Z (λh=>?_) λh=>?_
   ·refine aR<|gJ 2 Z Z Z Z Z Z<|aL<|aQ<|bG<|XO (i:=0) Z<|aC (lV Z) Z<|aL<|Uw Z<|aQ<|bG<|aI<|aI<|bG<|aaW (i:=0) (.inl Z) Z (MX.r0 Z)<|bG<|aI<|t_ (i:=5) (Ds:=(List.cons f ([]:lW))) (.inl Z) Z ?_;cases h;exact gE () Z Z (QL 2 Z Z Z Z) .nil aG.nil
   refine dM<|XJ<|Lg (i:=0) Z<|aC (lV Z) Z<|aL<|KC Z<|dM<|jH<|aO<|dL 1 Z<|dL 1 Z<|aC (lO Z Z) Z<|wE Z<|gJ 1 Z Z Z Z Z Z<|aL ?_;exact tV (eG .u32 d (wI .u32 (d - (1:Int)))) () h SF Z
  refine qC<|eZ<|eZ<|wQ<|XN (i:=0) (.inr Z) Z (MX.r0 Z)<|jH ?_;exact KE () (List.cons f ([]:lW)) Z h SF (bA.ix [2,5] Z Z) (aG.refl _ _)
 intro k g h;unfold kD at h;refine aR<|gJ 0 Z Z Z Z Z Z<|aL<|aQ<|t_ (i:=1) (Ds:=(g)) (.inl Z) Z ?_;cases h;exact gE () Z Z (QL 0 Z Z Z Z) .nil aG.nil
def mT (U:Nat) (d:aX) (b:Int) (e:Int) (a:Int) (c:Bool):Option Bool:=
 if c=true then(some (false))else(if b=(1:Int)then(some (decide ((eG .u32 a (wI .u32 (a - (1:Int))))=(0:Int))))else(if b=(2:Int)then(Option.bind (iK U d a) λf=>(some (f)))else(if b=(4:Int)then(some (decide (a=e)))else(some (true)))))
def gO (U:Nat) (c:aX) (d:Int) (b:Int) (a:Int):Option Bool:=
 if a=(0:Int)then(mT U c d b a (true))else(mT U c d b a (decide ((kE .u32 a b)≠(0:Int))))
theorem UM:aV Tryz.prog 133:=Tryz.call133
theorem Ap (U:Nat) {p0:aX} {p1:Int} {p2:Int} {p3:Int} (b:Value) (r:Bool) (h:gO U p0 p1 p2 p3=some r):
  aW Tryz.prog 133 #[b,vI (p1),vU (p2),vU (p3)] [Sl wR b p0,Gb 0 (cellsOf J_ Au)] (λx:Unit=>vB (r)) (λx l=>l) (λ_ l=>l):=by
 refine aW.of Tryz.func133 Z Tryz.ntmps133 Z λc=>?_;refine aR<|aB Z<|aL<|aK<|aK<|dK (λa=>mT U p0 p1 p2 p3 a=some r) (λa d=>[(0,b),(1,vI (p1)),(2,vU (p2)),(3,vU (p3)),(16,vB (a))]) (λa d=>[]) ?_ ?_
 ·refine aO<|aA Z<|bS Z<|aA Z ?_;refine wN h Z (λ_ h=>?_) λ_ h=>?_
  ·refine aE Z<|aE Z<|aE Z<|aE Z<|dA Z<|aL ?_;exact eW (true) () h SF Z
  refine bZ Z<|bZ Z<|aM Z (zG Z Z) Z<|aM Z (Dd Z Z) Z<|c_ Z<|aL ?_;exact eW (decide ((kE .u32 p3 p2)≠(0:Int))) () h SF Z
 intro a d h;refine tT h Z (λ_ h=>?_) λ_ h=>?_
 ·refine aR<|aB Z<|aL<|aQ<|aI ?_;cases h;exact fW Z
 refine cE<|aK<|aR<|aA Z<|aL<|aS<|aR<|bS Z<|aB Z<|aL ?_;refine d_ h Z (λh=>?_) λh=>?_
 ·refine aR<|aA Z<|aA Z<|aC (lO Z Z) Z<|wE Z<|bS Z<|aB Z<|aL<|aQ<|bG<|aI ?_;cases h;exact fW Z
 refine aR<|bS Z<|aB Z<|aL ?_;refine d_ h Z (λh=>?_) λh=>?_
 ·refine aR<|aA Z<|aA Z<|dZ h λe f h=>aH (zBg abK (CR U b e f) Z (jP [0,1] Z)) Z λg=>aB Z<|aL<|aQ<|bG<|aI ?_;cases h;exact fW Z
 refine aR<|bS Z<|aB Z<|aL ?_;refine d_ h Z (λh=>?_) λh=>?_
 ·refine aR<|aA Z<|aA Z<|bS Z<|aB Z<|aL<|aQ<|bG<|aI ?_;cases h;exact fW Z
 refine dM<|jH<|aR<|aB Z<|aL<|aQ ?_;cases h;exact fW Z
def jX  (a:Int):Option (Int):=
 some (a)
def iG (a:eL) (b:gC->Option (Int)) (c:Int):Option (Int):=
 b ((eG .u32 a.1 (wI .u32 (a.1 - (1:Int)))),c)
def dC (U:Nat) (d:aX) (a:eL) (c:gC->Option (Int)):Option (Int):=
 if a.1≠(0:Int)then(Option.bind (iU U a.1) λb=>(ck (0<=b∧b<(d.length:Int)) (if(eG .u32 (at' d b) a.2)=(0:Int)then(ck (0<=b) (iG a c (Fx .u32 a.2 (zE .u32 (1:Int) b))))else(iG a c (a.2)))))else(jX  (a.2))
def mU (U:Nat) (c:aX) (b:Int) (a:Unit):Option (Int):=
 bK (dC U c) U (b,(0:Int))
def fY (U:Nat) (c:aX) (b:Int) (d:Int) (a:Int):Option (Int):=
 if b=(1:Int)then(some (eG .u32 a (wI .u32 (0 - a))))else(if b=(2:Int)then(mU U c a (()))else(if b=(4:Int)then(some (d))else(some (a))))
def eK (U:Nat) (b:aX) (c:Int) (a:Int) (d:Int):Option (Int):=
 if(eG .u32 d a)=(0:Int)then(fY U b c a (eG .u32 a (wI .u32 (0 - a))))else(fY U b c a (eG .u32 d a))
theorem YB:aV Tryz.prog 93:=Tryz.call93
theorem Aq (U:Nat) {p0:aX} {p1:Int} {p2:Int} {p3:Int} (k:Value) (r:Int) (h:eK U p0 p1 p2 p3=some r):
  aW Tryz.prog 93 #[k,vI (p1),vU (p2),vU (p3)] [Sl wR k p0,Gb 0 (cellsOf J_ Au)] (λx:Unit=>vU (r)) (λx l=>l) (λ_ l=>l):=by
 refine aW.of Tryz.func93 Z Tryz.ntmps93 Z λc=>?_;refine gF QQ<|aR<|bE (Know.one ((aD.fact 0 Z))) λD=>?_;refine aH (aN.box (cs:=[k]) Z (by rw[cI D])) Z λq=>?_;refine aB Z<|aL<|aR<|aA Z<|aA Z<|wE Z<|aB Z<|aL<|aK<|Tc (A:=Int) (B:=Unit) (λg C=>⟨48,LZ ([]:lW)⟩) (λg=>fY U p0 p1 p2 g=some r) (λg C=>[(1,vI (p1)),(2,vU (p2)),(3,vU (g)),(4,vP q),(8,vU (0:Int))]) (λg C=>[cJ q [k] 90,OI ([]:lW)]) (λg C=>[Sl wR k p0,Gb 0 (cellsOf J_ Au)]) ?_ ?_
 ·refine aR<|aA Z<|bS Z<|aL ?_;refine d_ h Z (λh=>?_) λh=>?_
  ·refine aO<|aA Z<|aA Z<|aC (QY Z) Z<|wE Z<|aB Z<|aL ?_;exact KE (eG .u32 p2 (wI .u32 (0 - p2))) () Z h SF (bA.refl _) (aG.refl _ _)
  refine cE ?_;exact KE (eG .u32 p3 p2) () Z h SF (bA.refl _) (aG.refl _ _)
 intro g C h;refine aK<|aR<|aA Z<|aL<|aS<|aR<|bS Z<|aB Z<|aL ?_;refine d_ h Z (λh=>?_) λh=>?_
 ·refine aR<|aA Z<|aA Z<|aC (QY Z) Z<|wE Z<|aB Z<|aL<|aQ<|bG<|aI<|t_ (i:=1) (Ds:=([]:lW)) (.inl Z) Z ?_;cases h;exact oA Z
 refine aR<|bS Z<|aB Z<|aL ?_;refine d_ h Z (λh=>?_) λh=>?_
 ·refine aR<|aH (aN.alloc (cs:=[vU (0:Int)]) Z Z) Z λv=>gJ 0 Z Z Z Z Z Z<|aL<|aK<|Tc (A:=Int) (B:=lW) (λd e=>⟨48,LZ e⟩) (λd=>jX  d=some r) (λd e=>[(9,vP v)]) (λd e=>[cJ v [vU (d)] 26,OI e]) (λd e=>[Sl wR k p0,Gb 0 (cellsOf J_ Au)]) ?_ ?_
  ·refine aR<|aA Z<|HE (A:=Unit) (B:=Nat) (vs:=[vU (g)]) (λj=>mU U p0 g j=some r) (λj b=>Value.func (.func 178) #[] #[vP b]) (λj b=>[cJ b [vU (g)] 26,cJ v [vU (0:Int)] 26,cJ q [k] 90,OI ([]:lW)]) (λj b=>[Sl wR k p0,Gb 0 (cellsOf J_ Au)]) (Ca.fn (show aV Tryz.prog 136 from Tryz.call136) Z) Tryz.func136 Z Tryz.ntmps136 Z Z ?_ ?_
   ·refine aR<|aH (aN.box (cs:=[vU (g)]) Z Z) Z λu=>aB Z<|aL<|aR<|aC (EE (cs:=[.tmp 1]) (vs:=[vP u]) Z) Z<|aB Z<|aL<|aQ ?_;exact Dp () (u) h (.inl Z) (MX.r1 Z (RV.tmp Z)) Z (bA.refl _) (aG.refl _ _)
   intro j b h;unfold mU at h;refine aL<|aS<|Ii (i:=3) (cs:=[vP b]) ([]:lW) Z (show aV Tryz.prog 178 from Tryz.call178) Z Tryz.func178 Z Tryz.ntmps178 Z λm n p w=>aS<|eB (dC U p0) (λa s=>[(0,Aw m),(1,vP b)]) (λa s=>[Lp m p LoopState.ready none,cJ b [vU (a.1)] 26,cJ v [vU (a.2)] 26,cJ q [k] 90,OI (List.cons n ([]:lW))]) (g,(0:Int)) () h SF (bA.refl _) ?_;intro F a s h;refine aK<|aR<|dL 1 Z<|jQ Z<|aL ?_;refine d_ h Z (λh=>?_) λh=>?_
   ·refine cE<|aK<|dK (λf=>iG a (bK (dC U p0) F) f=some r) (λf t=>[(0,Aw m),(1,vP b)]) (λf t=>[Lp m p LoopState.ready none,cJ b [vU (a.1)] 26,cJ v [vU (f)] 26,cJ q [k] 90,OI (List.cons n ([]:lW))]) ?_ ?_
    ·refine aS<|aR<|aA Z<|dL 1 Z<|dZ h λo G h=>aH (zBg Tw (sG U  o G) Z (jP [1] Z)) Z λH=>QB (us:=[vI (o)]) (i:=0) w Z Z Z Z Z Z<|aO<|aB Z<|aL<|Uv (i:=0) Z<|aS<|aK ?_;refine JR.start [0,0,3,7,0,31,63] 5 mixedOrders (by decide +kernel) ?_;refine zBj (by exact rfl) ?_;refine fD 3 Z<|aY Z<|dW h λy h=>bM Z .nil (kH 0 Z) (a_ Z Z (aD.fact 0 Z) Z Z y) aU.z<|bM Z .nil (kH 0 Z) (bY Z (aD.fact 0 Z) Z Z Z AI y) aU.z<|fD 2 Z<|bP 5 Z Z<|wE Z<|bS Z<|aL ?_;refine d_ h Z (λh=>?_) λh=>?_
     ·refine JR.start [0,0,2,7,15] 3 mixedOrders (by decide +kernel) ?_;refine zBj (by exact rfl) ?_;refine fD 2 Z<|aY Z<|dW h λE h=>iY Z (FL Z Z E)<|bP 3 Z Z<|aC (Kr Z Z) Z<|gJ 2 Z Z Z Z Z Z<|eN<|XJ<|Lg (i:=0) Z<|aC (lV Z) Z<|aL<|KC Z<|dM<|jH ?_;exact eW (Fx .u32 a.2 (zE .u32 (1:Int) o)) () h SF Z
     refine dM<|XJ<|Lg (i:=0) Z<|aC (lV Z) Z<|aL<|KC Z<|dM<|jH ?_;exact eW (a.2) () h SF Z
    intro f t h;unfold iG at h;refine aO<|dL 1 Z<|dL 1 Z<|aC (lO Z Z) Z<|wE Z<|gJ 1 Z Z Z Z Z Z<|aL ?_;exact tV ((eG .u32 a.1 (wI .u32 (a.1 - (1:Int)))),f) () h SF Z
   refine qC<|eZ<|eZ<|wQ<|XN (i:=0) (.inr Z) Z (MX.r0 Z)<|jH ?_;exact KE (a.2) (List.cons n ([]:lW)) Z h SF (bA.ix [2,4] Z Z) (aG.refl _ _)
  intro d e h;unfold jX at h;refine aR<|dL 0 Z<|aB Z<|aL<|aQ<|bG<|aI<|t_ (i:=1) (Ds:=(e)) (.inl Z) Z ?_;cases h;exact oA Z
 refine aR<|bS Z<|aB Z<|aL ?_;refine d_ h Z (λh=>?_) λh=>?_
 ·refine aR<|aA Z<|aB Z<|aL<|aQ<|bG<|aI<|t_ (i:=1) (Ds:=([]:lW)) (.inl Z) Z ?_;cases h;exact oA Z
 refine dM<|jH<|aR<|aA Z<|aB Z<|aL<|aQ<|t_ (i:=1) (Ds:=([]:lW)) (.inl Z) Z ?_;cases h;exact oA Z
end Go.Proofs.YtahgemjmgopleaaGreatDoor
section
set_option maxRecDepth 100000
namespace Go.Gx
open Go Go.Sx Go.Proofs Go.Proofs.YtahgemjmgopleaaGreatDoor
noncomputable section
def agZ (a:List GV) (H:GH):OR:=a1 a λb=>ob (YL H b) λp0=>ob (jJ 1000 p0) λr=>ZO r H
def agY (a:List GV) (H:GH):OR:=a2 a λb c=>ob (agN H b) λp0=>ob (dSc .i64 c) λp1=>ob (oK 1000 p0 p1) λr=>Ua r H
def adC (a:List GV) (H:GH):OR:=a4 a λb c d e=>ob (YO H b) λp0=>ob (dSc .i64 c) λp1=>ob (dSc .u32 d) λp2=>ob (dSc .u32 e) λp3=>ob (gO 1000 p0 p1 p2 p3) λr=>ZO r H
def ag_ (a:List GV) (H:GH):OR:=a4 a λb c d e=>ob (YO H b) λp0=>ob (dSc .i64 c) λp1=>ob (dSc .u32 d) λp2=>ob (dSc .u32 e) λp3=>ob (eK 1000 p0 p1 p2 p3) λr=>some (.int .u32 r,H)
def Zn (f:Nat) (a:List GV) (H:GH):Option (GV×GH):=bif Nat.beq f 75 then agZ a H else bif Nat.beq f 40 then agY a H else bif Nat.beq f 133 then adC a H else bif Nat.beq f 93 then ag_ a H else none
abbrev gl:Nat->BA:=glb 0 (cellsOf J_ Au)
def gp:GP:=⟨zA,64,Zn,Zm 232⟩
section
variable {T:Nat} {w0:fQ (gl T)} {w:World} {ρ:fC} {H H':GH} {g:GV} {us:List GV} {vs:List Value}
theorem acH (h:agZ us H=some (g,H')) (R:gH w0 ρ H w) (m:qL ρ us vs):lX Tryz.prog w0 ρ 75 vs w g H':=by
 obtain⟨p,rfl,h⟩:=Uz h;obtain⟨j,c,h⟩:=aF.1 h;obtain⟨r,l,h⟩:=aF.1 h;obtain⟨o,rfl,d⟩:=m.one;obtain⟨e,i,n,rfl,a,b⟩:=WG R d c;obtain⟨rfl,rfl⟩:=Mg h;exact HT Tz (DO 1000 (p0:=j) e i n r l) R (zAv.2 ⟨a,zAv.2 ⟨b,λf k=>absurd k List.not_mem_nil⟩⟩) λρ=> .bool _
theorem acG (h:agY us H=some (g,H')) (R:gH w0 ρ H w) (i:qL ρ us vs):lX Tryz.prog w0 ρ 40 vs w g H':=by
 obtain⟨z,A,rfl,h⟩:=UA h;obtain⟨o,d,h⟩:=aF.1 h;obtain⟨p,e,h⟩:=aF.1 h;obtain⟨r,v,h⟩:=aF.1 h;obtain⟨x,vs,rfl,j,i⟩:=i.of_cons;obtain⟨y,rfl,k⟩:=i.one;obtain⟨l,m,n,rfl,a,b,c⟩:=acm R j d;obtain rfl:=FV k e;obtain⟨q,s,t,rfl,rfl⟩:=RF h;exact TR agS agT q s t Ys (CS 1000 (p0:=o) (p1:=p) l m n r v) R (zAv.2 ⟨a,zAv.2 ⟨b,zAv.2 ⟨c,λf u=>absurd u List.not_mem_nil⟩⟩⟩)
theorem Zq (h:adC us H=some (g,H')) (R:gH w0 ρ H w) (a:qL ρ us vs):lX Tryz.prog w0 ρ 133 vs w g H':=by
 obtain⟨z,A,B,C,rfl,h⟩:=OS h;obtain⟨m,b,h⟩:=aF.1 h;obtain⟨n,c,h⟩:=aF.1 h;obtain⟨o,d,h⟩:=aF.1 h;obtain⟨p,e,h⟩:=aF.1 h;obtain⟨r,u,h⟩:=aF.1 h;obtain⟨q,vs,rfl,i,a⟩:=a.of_cons;obtain⟨v,vs,rfl,j,a⟩:=a.of_cons;obtain⟨x,vs,rfl,k,a⟩:=a.of_cons;obtain⟨y,rfl,l⟩:=a.one;have s:=Rj R i b;obtain rfl:=FV j c;obtain rfl:=FV k d;obtain rfl:=FV l e;obtain⟨rfl,rfl⟩:=Mg h;exact HT UM (Ap 1000 (p0:=m) (p1:=n) (p2:=o) (p3:=p) q r u) R (zAv.2 ⟨s,zAv.2 ⟨R.glb,λf t=>absurd t List.not_mem_nil⟩⟩) λρ=> .bool _
theorem acI (h:ag_ us H=some (g,H')) (R:gH w0 ρ H w) (a:qL ρ us vs):lX Tryz.prog w0 ρ 93 vs w g H':=by
 obtain⟨z,A,B,C,rfl,h⟩:=OS h;obtain⟨m,b,h⟩:=aF.1 h;obtain⟨n,c,h⟩:=aF.1 h;obtain⟨o,d,h⟩:=aF.1 h;obtain⟨p,e,h⟩:=aF.1 h;obtain⟨r,u,h⟩:=aF.1 h;obtain⟨q,vs,rfl,i,a⟩:=a.of_cons;obtain⟨v,vs,rfl,j,a⟩:=a.of_cons;obtain⟨x,vs,rfl,k,a⟩:=a.of_cons;obtain⟨y,rfl,l⟩:=a.one;have s:=Rj R i b;obtain rfl:=FV j c;obtain rfl:=FV k d;obtain rfl:=FV l e;cases h;exact HT YB (Aq 1000 (p0:=m) (p1:=n) (p2:=o) (p3:=p) q r u) R (zAv.2 ⟨s,zAv.2 ⟨R.glb,λf t=>absurd t List.not_mem_nil⟩⟩) λρ=> .int _ _
theorem Pr {f:Nat} (h:Zn f us H=some (g,H')) (R:gH w0 ρ H w) (a:qL ρ us vs):lX Tryz.prog w0 ρ f vs w g H':=by
 unfold Zn at h;cases b:Nat.beq f 75 with
 |true=>rw[b]at h;rw[zA3 b];exact acH h R a
 |false=>
 rw[b]at h;cases c:Nat.beq f 40 with
 |true=>rw[c]at h;rw[zA3 c];exact acG h R a
 |false=>
 rw[c]at h;cases d:Nat.beq f 133 with
 |true=>rw[d]at h;rw[zA3 d];exact Zq h R a
 |false=>
 rw[d]at h;cases e:Nat.beq f 93 with
 |true=>rw[e]at h;rw[zA3 e];exact acI h R a
 |false=>
 rw[e]at h;cases h
end
theorem aff:agP Tryz.prog zA=true:=by kernel_rfl
theorem K_:fV Tryz.prog zA:=⟨Su,afe aff⟩
theorem afF {a:BA} (b:fQ a):tW Tryz.prog b (NR zA 104 Tryz.f104):=YF K_ mixedOrders Tryz.func104 Tryz.call104 (by kernel_rfl)
theorem ae_ (a:Array Value) (w:World) (c:a.size=2):CallsDIn (FR none) 0 Tryz.prog 103 a .returning w λe f g=>∃v,e = .returned v∧f = .returning∧NF w g:=by
 obtain⟨d,h,b⟩:=ZP (r:=Hn zA (NR zA 104 Tryz.f104) (Pd Tryz.f103) (evC zA (NR zA 104 Tryz.f104) (λ_ _ _ _=>none) (YD Tryz.f103) 0 ⟨[],0,[]⟩ (IN [])) (Pd Tryz.f103).tail ⟨[(ack Tryz.f103,.inil)],H0⟩) (by kernel_rfl);exact Wz (ch:=NR zA 104 Tryz.f104) (lp:=λ_ _ _ _=>none) K_ mixedOrders afF Kj Tryz.func103 Z Z Z (by decide +kernel) (λi w=>by simp[execOp,resolve,invoke,builtin]) (by kernel_rfl) (by kernel_rfl) Z (by rw[c];decide +kernel) h b
theorem agU {i:BA} {a:FuncId->List GV->GH->Option (GV×GH)} (o:∀(b:fQ i) {f us H g H'},a f us H=some (g,H')->∀c w d,gH b c H w->qL c us d->lX Tryz.prog b c f d w g H') (b:fQ i):Wh Tryz.prog ⟨zA,64,a,Zm 232⟩ Hf.fns b:=by
 refine⟨K_,mixedOrders,λh=> ?_,o b,λh c w d H R n=>acz Tryz.func232 Z Z Z Z h c w d H R n,λR l j k=> ?_⟩
 ·obtain⟨e,m,h⟩:=aF.1 (show ob (VB _) _=some _ from h);cases h;obtain⟨p,q,r⟩:=aah m;exact⟨p,q,RG r⟩
 ·exact aeU (tb:=zA) (T1:=3) (T2:=44) (cc:=103) K_ Tryz.func64 Tryz.call64 Tryz.call103 Z Z Z (UD (by kernel_rfl)) (UD (by kernel_rfl)) (VL Z Z) (VL Z Z) (ZB Z Z) (ZB Z Z) ae_ R l j k
theorem Xx {T:Nat} (a:fQ (gl T)):Wh Tryz.prog gp Hf.fns a:=agU (λa f d H g c h i w e R b=>Pr h R b) a
def gp0:GP:=⟨zA,64,λ_ _ _=>none,Zm 232⟩
theorem acB (a:fQ noG):Wh Tryz.prog gp0 Hf.fns a:=agU (λa f c H g b h=>by cases h) a
end
end Go.Gx
end
namespace Go.Gx
open Go Go.Sx Go.RowKit
mutual
def IR (k:Nat):GV->GV
 | .ptr h o=> .ptr (k+h) o
 | .sl h o l s=> .sl (k+h) o l s
 | .map h=> .map (k+h)
 | .fn f a b=> .fn f (Xz k a) (Xz k b)
 | .agg cs=> .agg (Xz k cs)
 | .tup vs=> .tup (Xz k vs)
 | .int a b=> .int a b
 | .bool b=> .bool b
 | .str a b=> .str a b
 | .pnil=> .pnil
 | .snil=> .snil
 | .fnil=> .fnil
 | .inil=> .inil
 | .un=> .un
 | .bad=> .bad
 | .opn h=> .opn (k+h)
def Xz (k:Nat):List GV->List GV
 | []=>[]
 |v::r=>IR k v::Xz k r
end
theorem PT (k:Nat):∀(l:List GV) (i:Nat),(Xz k l)[i]? = (l[i]?).map (IR k)
 | [],i=>rfl
 |v::r,0=>rfl
 |v::r,i+1=>by simpa [Xz]using PT k r i
theorem GY (k:Nat):∀(l:List GV),(Xz k l).length=l.length
 | []=>rfl
 |v::r=>by simp[Xz,GY k r]
def shO (k:Nat):GO->GO
 | .cells cs=> .cells (Xz k cs)
 | .mp es=> .mp (es.map λe=>(IR k e.1,IR k e.2))
def CP (k:Nat) (l:NJ):NJ:={l with o:=shO k l.o}
theorem Rl.shift {y e:fC} {k:Nat} (c:∀h l,y h=some l->e (k+h)=some (CP k l)) {g:GV} {v:Value} (h:Rl y g v):Rl e (IR k g) v:=by
 have d:∀{u:List GV} {j:gV},(∀(i:Nat) g v,u[i]? = some g->j[i]? = some v->Rl e (IR k g) v)->∀(i:Nat) g v,(Xz k u)[i]? = some g->j[i]? = some v->Rl e g v:=by
  intro u j D i g v x E;rw[PT]at x;obtain⟨z,A,rfl⟩:=Option.map_eq_some_iff.1 x;exact D i z v A E
 induction h with
 |int a n=>simp only[IR];exact .int a n
 |bool b=>simp only[IR];exact .bool b
 |str s=>simp only[IR];exact .str s
 |ptr t h=>simp only[IR];exact .ptr (l:=CP k _) t (c _ _ h)
 |pnil=>simp only[IR];exact .pnil
 |sl h C B=>simp only[IR];exact .sl (l:=CP k _) (c _ _ h) C B
 |snil=>simp only[IR];exact .snil
 |map h=>simp only[IR];exact .map (l:=CP k _) (c _ _ h)
 |fn f m w o G q r=>simp only[IR];exact .fn f (by rw[GY];exact m) (d q) (by rw[GY];exact o) (d r)
 |fnil=>simp only[IR];exact .fnil
 |inil=>simp only[IR];exact .inil
 |agg m w o p=>simp only[IR];exact .agg (by rw[GY];exact m) (d p) o
 |tup m w p=>simp only[IR];exact .tup (by rw[GY];exact m) (d p)
 |un=>simp only[IR];exact .un
 |bad v=>simp only[IR];exact .bad v
 |opn v h F=>simp only[IR];exact .opn (l:=CP k _) v (c _ _ h) F
abbrev OL:=List (Nat×Nat×GO)
def Xy:OL->Nat->Option (Nat×GO)
 | [],_=>none
 |x::r,h=>if h=x.1 then some x.2 else Xy r h
theorem Py {b:OL} {h:Nat} {p:Nat×GO} (a:Xy b h=some p):(h,p)∈b:=by
 induction b with
 |nil=>cases a
 |cons x r c=>
  simp only[Xy]at a;split at a
  ·rename_i e;cases a;subst e;exact zAa
  ·exact zAg _ (c a)
noncomputable def RR (k:Nat) (t:Tr (Nat×GO)):OL->Tr (Nat×GO)
 | []=>t
 |x::r=>(RR k t r).set (some (k+x.2.1,shO k x.2.2)) (k+x.1)
noncomputable def ade:OL->Tr (Nat×GO)
 | []=> .lf
 |x::r=>(ade r).set (some x.2) x.1
theorem Gc:∀(a:OL) (h:Nat),(ade a).get h=Xy a h
 | [],h=>rfl
 |x::r,h=>by
  show((ade r).set (some x.2) x.1).get h=_;rw[uC];simp only[Xy];split
  ·rfl
  ·exact Gc r h
theorem Mj (k:Nat) (t:Tr (Nat×GO)):∀(b:OL) (h:Nat),(RR k t b).get h=if k<=h then(match Xy b (h - k)with|some p=>some (k+p.1,shO k p.2)|none=>t.get h)else t.get h
 | [],h=>by simp[RR,Xy]
 | x :: r, h => by
  show((RR k t r).set (some (k+x.2.1,shO k x.2.2)) (k+x.1)).get h=_;rw[uC,Mj k t r h];by_cases e:h=k+x.1
  ·subst e;rw[if_pos Z,if_pos (by omega)];simp[Xy]
  ·rw[if_neg e];by_cases a:k<=h
   ·rw[if_pos a,if_pos a];simp only[Xy];rw[if_neg (show¬h - k=x.1 by omega)]
   ·rw[if_neg a,if_neg a]
noncomputable def Hr (n:Nat) (a:OL):GH:=⟨n,ade a⟩
noncomputable def GH.load (H:GH) (n:Nat) (a:OL):GH:=⟨H.n+n,RR H.n H.t a⟩
section
variable {gs:BA} {w0:fQ gs} {w w':World} {ρ ρ2:fC} {H:GH} {n:Nat} {os:OL}
theorem iH {H:GH} {h:Nat} {o:GO}:H.get h=some o↔∃v,H.t.get h=some (v,o):=by
 unfold GH.get;cases c:H.t.get h with
 |none=>simp[ob]
 |some p=>obtain⟨a,b⟩:=p;simp[ob]
theorem tZ {H:GH} {h v:Nat}:H.ver h=some v↔∃o,H.t.get h=some (v,o):=by
 unfold GH.ver;cases c:H.t.get h with
 |none=>simp[ob]
 |some p=>obtain⟨a,b⟩:=p;simp[ob]
theorem gH.sub {d:GH} (R:gH w0 ρ H w) (z:d.n=H.n) (m:∀h p,d.t.get h=some p->H.t.get h=some p):gH w0 ρ d w:=by
 have g:∀h o,d.get h=some o->H.get h=some o:=λh o i=>by
  obtain⟨v,j⟩:=iH.1 i;exact iH.2 ⟨v,m _ _ j⟩
 refine⟨R.ext,λh o i=>R.live h o (g h o i),λh q o y l u e f=>R.inj h q o y l u (g _ _ e) (g _ _ f),λh r=>R.fresh h (by omega),λh r=>R.dense h (by omega),λh v l j s=> ?_,R.env⟩
 obtain⟨o,k⟩:=tZ.1 j;obtain⟨x,a,b,c⟩:=R.vers h v l (tZ.2 ⟨o,m _ _ k⟩) s;refine⟨x,a,b,?_⟩
 have e:=iH.2 ⟨v,k⟩;have f:=g _ _ e;rw[c]at f;cases f;exact e
theorem Az.shift {l:NJ} {o:GO} {f:fC} {k:Nat} (d:∀h l,ρ2 h=some l->f (k+h)=some (CP k l)) (h:Az ρ2 w l o):Az f w (CP k l) (shO k o):=by
 cases o with
 |cells z=>
  obtain⟨j,T,r,s,t,y⟩:=h;refine⟨j,T,r,s,by rw[GY];exact t,λi g e=> ?_⟩
  rw[PT]at e;obtain⟨p,q,rfl⟩:=Option.map_eq_some_iff.1 e;obtain⟨v,a,b,c⟩:=y i p q;exact⟨v,a,b.shift d,c⟩
 |mp A=>
  obtain⟨x,u,r,s,t⟩:=h;refine⟨x,u,r,by simpa [shO]using s,λi g e=> ?_⟩
  rw[List.getElem?_map]at e;obtain⟨p,q,rfl⟩:=Option.map_eq_some_iff.1 e;obtain⟨m,a,b,c⟩:=t i p q;exact⟨m,a,b.shift d,c.shift d⟩
theorem gH.join {Y:BA} {hb:Ka Y w λ_=>False} (R:gH w0 ρ H w) (M:gH (fQ.of w hb) ρ2 (Hr n os) w'):
  ∃s:fC,ρ.le s∧gH w0 s (H.load n os) w'∧∀g v,Rl ρ2 g v->Rl s (IR H.n g) v:=by
 let s:fC:=λh=>if h<H.n then ρ h else(ρ2 (h - H.n)).map (CP H.n);have G:ρ.le s:=λh l f=>by
  have ac:h<H.n:=by
   rcases zAm h H.n with q|q
   ·exact q
   ·rw[R.fresh h q]at f;cases f
  show(if h<H.n then ρ h else _)=_;rw[if_pos ac];exact f
 have K:∀h l,ρ2 h=some l->s (H.n+h)=some (CP H.n l):=λh l f=>by
  show(if H.n+h<H.n then _ else _)=_;rw[if_neg (by omega),show H.n+h - H.n=h by omega,f];rfl
 have k:∀h,h<H.n->s h=ρ h:=λh u=>by show(if h<H.n then ρ h else _)=_;rw[if_pos u]
 have d:∀h,H.n<=h->s h=(ρ2 (h - H.n)).map (CP H.n):=λh u=>by show(if h<H.n then ρ h else _)=_;rw[if_neg (by omega)]
 have J:∀h,H.n<=h->H.t.get h=none:=λh u=>by
  cases y:H.t.get h with
  |none=>rfl
  |some p=>exact absurd (R.lt (iH.2 ⟨p.1,y⟩)) (by omega)
 have X:∀h,h<H.n->(H.load n os).t.get h=H.t.get h:=λh u=>by
  show(RR H.n H.t os).get h=_;rw[Mj,if_neg (by omega)]
 have gh:∀h p,H.n<=h->(H.load n os).t.get h=some p->∃x,(Hr n os).t.get (h - H.n)=some x∧p=(H.n+x.1,shO H.n x.2):=λh p u hp=>by
  have A:(RR H.n H.t os).get h=some p:=hp;rw[Mj,if_pos u,J h u]at A;cases hk:Xy os (h - H.n)with
  |none=>rw[hk]at A;cases A
  |some x=>rw[hk]at A;cases A;exact⟨x,(Gc os _).trans hk,rfl⟩
 have W:NF w w':=M.ext.ext;have L:∀l:NJ,(fQ.of w hb).mine l.b->w.heap.size<=l.b:=λl h=>by
  rcases h with h|h
  ·exact h
  ·exact h.elim
 have r:∀h o,h<H.n->(H.load n os).get h=some o->∃l,ρ h=some l∧w0.mine l.b∧Az ρ w l o∧H.get h=some o:=λh o u y=>by
  obtain⟨v,N⟩:=iH.1 y;rw[X h u]at N;have z:=iH.2 ⟨v,N⟩;obtain⟨l,a,b,c⟩:=R.live h o z;exact⟨l,a,b,c,z⟩
 have m:∀h o,H.n<=h->(H.load n os).get h=some o->∃l O,ρ2 (h - H.n)=some l∧w.heap.size<=l.b∧Az ρ2 w' l O∧o=shO H.n O∧(Hr n os).get (h - H.n)=some O:=λh o u y=>by
  obtain⟨v,N⟩:=iH.1 y;obtain⟨x,E,e⟩:=gh h _ u N;cases e;have z:(Hr n os).get (h - H.n)=some x.2:=iH.2 ⟨x.1,E⟩;obtain⟨l,a,b,c⟩:=M.live _ _ z;exact⟨l,x.2,a,L l b,c,rfl,z⟩
 refine⟨s,G,⟨R.ext.trans W,λh o y=> ?_,λh B o U l l' V E f j F=> ?_,λh u=> ?_,λh u=> ?_,λh v l N f=> ?_,λi v e=>let ⟨l,a,b⟩:=R.env i v e;⟨l,G _ _ a,b⟩⟩,λg v y=>y.shift K⟩
 ·rcases zAm h H.n with q|q
  ·obtain⟨l,a,b,c,_⟩:=r h o q y;exact⟨l,by rw[k h q];exact a,b,c.move G (W.block _ c.lt)⟩
  ·obtain⟨l,O,a,b,c,rfl,_⟩:=m h o q y;exact⟨CP H.n l,by rw[d h q,a];rfl,.inl (zB0 R.ext.size b),c.shift K⟩
 ·rcases zAm h H.n with q|q<;>rcases zAm B H.n with I|I
  ·obtain⟨l1,C,_,_,P⟩:=r h o q V;obtain⟨T,D,_,_,Q⟩:=r B U I E;rw[k h q,C]at f;rw[k B I,D]at j;cases f;cases j;exact R.inj h B o U _ _ P Q C D F
  ·obtain⟨l1,C,_,c1,P⟩:=r h o q V;obtain⟨T,O,D,b2,_,rfl,Q⟩:=m B U I E;rw[k h q,C]at f;rw[d B I,D]at j;cases f;cases j;have:=c1.lt;simp only[CP]at F;omega
  ·obtain⟨l1,o1,C,b1,_,rfl,P⟩:=m h o q V;obtain⟨T,D,_,c2,Q⟩:=r B U I E;rw[d h q,C]at f;rw[k B I,D]at j;cases f;cases j;have:=c2.lt;simp only[CP]at F;omega
  ·obtain⟨l1,o1,C,b1,_,rfl,P⟩:=m h o q V;obtain⟨T,O,D,b2,_,rfl,Q⟩:=m B U I E;rw[d h q,C]at f;rw[d B I,D]at j;cases f;cases j;have:=M.inj _ _ _ _ _ _ P Q C D F;omega
 ·have aa:H.n+n<=h:=u;rw[d h (by omega),M.fresh (h - H.n) (by show n<=_;omega)];rfl
 ·have aa:h<H.n+n:=u;rcases zAm h H.n with q|q
  ·obtain⟨l,f⟩:=R.dense h q;exact⟨l,by rw[k h q];exact f⟩
  ·obtain⟨l,f⟩:=M.dense (h - H.n) (by show _<n;omega);exact⟨CP H.n l,by rw[d h q,f];rfl⟩
 ·obtain⟨o,S⟩:=tZ.1 N;rcases zAm h H.n with q|q
  ·rw[X h q]at S;rw[k h q]at f;obtain⟨lv,a,b,c⟩:=R.vers h v l (tZ.2 ⟨o,S⟩) f;have y:=iH.2 ⟨v,S⟩;obtain⟨l',j,_,ck⟩:=R.live h o y;rw[f]at j;cases j;refine⟨lv,G _ _ a,by rw[W.block _ ck.lt];exact b,?_⟩
   obtain⟨v2,ad⟩:=iH.1 c;exact iH.2 ⟨v2,by rw[X h q];exact ad⟩
  ·obtain⟨x,E,e⟩:=gh h _ q S;cases e;rw[d h q]at f;obtain⟨T,ab,rfl⟩:=Option.map_eq_some_iff.1 f;obtain⟨lv,a,b,c⟩:=M.vers (h - H.n) x.1 T (tZ.2 ⟨x.2,E⟩) ab;refine⟨CP H.n lv,K _ _ a,b,?_⟩
   have h3:(Hr n os).get (h - H.n)=some x.2:=iH.2 ⟨x.1,E⟩;rw[c]at h3;have h4:=Option.some.inj h3;exact iH.2 ⟨_,by rw[S,<-h4];rfl⟩
end
theorem YZ {a b:Nat×Nat} (h:SR a b=true):a=b:=by
 obtain⟨f,d⟩:=a;obtain⟨g,e⟩:=b;unfold SR at h;cases c:Nat.beq d e with
 |false=>simp[c]at h
 |true=>
  simp only[c,cond_true]at h;rw[zA3 h,zA3 c]
theorem PO {c:fC} {n l:Nat} {x:ByteArray} (a:n=mR (bQ x)) (b:l=(bQ x).length):Rl c (.str n l) (.string x):=by
 rw[a,b];exact .str x
def isS (a:List GV) (p:Nat×Nat):Bool:=List.casesOn (motive:=λ_=>Bool) a false λu r=>List.casesOn (motive:=λ_=>Bool) r (Option.casesOn (motive:=λ_=>Bool) (GV.asStr u) false λs=>SR s p) λ_ _=>false
theorem Zs {b:List GV} {p:Nat×Nat} (h:isS b p=true):b=[.str p.1 p.2]:=by
 cases b with
 |nil=>cases h
 | cons u r =>
  cases r with
  |cons _ _=>cases h
  | nil =>
   cases a:GV.asStr u with
   |none=>simp[isS,a]at h
   |some s=>
    have:SR s p=true:=by simpa [isS,a]using h
    rw[qW a,YZ this]
noncomputable section
def ZV (H:GH) (a:List Nat):Option OL:=List.rec (motive:=λ_=>Option OL) (some []) (λh _ b=>ob (H.t.get h) λp=>ob b λr=>some ((h,p.1,p.2)::r)) a
theorem JG {H:GH}:∀{c:List Nat} {b:OL},ZV H c=some b->∀x∈b,H.t.get x.1=some x.2
 | [],b,h,x,a=>by cases h;cases a
 |h0::c,b,h,x,a=>by
  obtain⟨p,d,h⟩:=aF.1 (show ob (H.t.get h0) (λp=>ob (ZV H c) λr=>some ((h0,p.1,p.2)::r))=some b from h);obtain⟨r,e,h⟩:=aF.1 h;cases h;rcases zAl.1 a with rfl|a
  ·exact d
  ·exact JG e x a
def Vo (T:Im) (G:GP) (a f:Nat) (d:List GV) (b:List Nat):Option (GV×Nat×OL):=ob (Hm T G a f d H0) λr=>ob (ZV r.2 b) λc=>some (r.1,r.2.n,c)
def shK {R:Type} (k:Nat) (v:GV) (f:GV->R):R:=GV.casesOn (motive_1:=λ_=>R) v (λa b=>f (.int a b)) (λb=>f (.bool b)) (λa b=>f (.str a b)) (λh o=>sn (Nat.add k h) λh=>f (.ptr h o)) (f .pnil) (λh o l s=>sn (Nat.add k h) λh=>f (.sl h o l s)) (f .snil) (λh=>sn (Nat.add k h) λh=>f (.map h)) (λa b c=>f (IR k (.fn a b c))) (f .fnil) (f .inil) (λd=>f (IR k (.agg d))) (λe=>f (IR k (.tup e))) (f .un) (f .bad) (λh=>sn (Nat.add k h) λh=>f (.opn h))
theorem aan {R:Type} (k:Nat) (v:GV) (f:GV->R):shK k v f=f (IR k v):=by
 cases v<;>simp[shK,yZ,IR]
def afO {R:Type} (k:Nat) (l:List GV):(List GV->R)->R:=List.rec (motive:=λ_=>(List GV->R)->R) (λf=>f []) (λx _ a f=>shK k x λy=>a λr=>f (y::r)) l
theorem VH {R:Type} (k:Nat):∀(l:List GV) (f:List GV->R),afO k l f=f (Xz k l)
 | [],f=>rfl
 |x::l,f=>by
  show shK k x (λy=>afO k l λr=>f (y::r))=_;rw[aan,VH k l];rfl
def afP {R:Type} (k:Nat) (o:GO) (f:GO->R):R:=GO.casesOn (motive:=λ_=>R) o (λa=>afO k a λa=>f (.cells a)) (λb=>f (shO k (.mp b)))
theorem adk {R:Type} (k:Nat) (o:GO) (f:GO->R):afP k o f=f (shO k o):=by
 cases o with
 |cells a=>exact VH k a _
 |mp b=>rfl
def afD {R:Type} (k:Nat) (t:Tr (Nat×GO)) (b:OL):(Tr (Nat×GO)->R)->R:=List.rec (motive:=λ_=>(Tr (Nat×GO)->R)->R) (λf=>f t) (λx _ a f=>a λt=>sn (Nat.add k x.2.1) λv=>sn (Nat.add k x.1) λh=>afP k x.2.2 λo=>t.setK (some (v,o)) h f) b
theorem Vy {R:Type} (k:Nat) (t:Tr (Nat×GO)):∀(a:OL) (f:Tr (Nat×GO)->R),afD k t a f=f (RR k t a)
 | [],f=>rfl
 |x::a,f=>by
  show afD k t a (λt=>sn (Nat.add k x.2.1) λv=>sn (Nat.add k x.1) λh=>afP k x.2.2 λo=>t.setK (some (v,o)) h f)=_;rw[Vy k t a];simp only[yZ,adk,EA];rfl
def Ru (g:GV) (n:Nat) (a:OL) (H:GH):Option (GV×GH):=sn H.n λk=>shK k g λg=>afD k H.t a λt=>sn (Nat.add k n) λm=>some (g,⟨m,t⟩)
theorem ZG (g:GV) (n:Nat) (a:OL) (H:GH):Ru g n a H=some (IR H.n g,H.load n a):=by
 unfold Ru;simp only[yZ,aan,Vy];rfl
theorem Vp {P:Program} {T:Im} {G:GP} {gs gs2:BA} (j:gs2.obs=gs.obs) (d:gs2.env=[]) (M:Ln T G.tab) (L:∀m:fQ gs2,Wh P G T.fns m) {a f n:Nat} {y:List GV} {z:List Value} {O:List Nat} {g:GV} {c:OL} (i:Vo T G a f y O=some (g,n,c)) (C:aV P f)
  {m:fQ gs} {w:World} {F:fC} {H o:GH} {B:GV} (Q:qL (λ_=>none) y z) (h:Ru g n c H=some (B,o)) (R:gH m F H w):lX P m F f z w B o:=by
 rw[ZG]at h;cases h;obtain⟨r,D,i⟩:=aF.1 (show ob (Hm T G a f y H0) _=some (g,n,c)from i);obtain⟨S,s,i⟩:=aF.1 i;cases i;rw[Cz M]at D;have b:Ka gs2 w λ_=>False:=λp t=>⟨(R.glo p (j▸t)).1,id⟩
 rcases Is L (H':=r.2) (g:=r.1) D (gH.start (fQ.of w b) d) Q with⟨v,E,l,k,_⟩|⟨_,N⟩
 ·have:=C z.toArray w;rw[show(fQ.of w b).w=w from rfl,this]at k;cases k
 ·refine .inr ⟨C _ w,N.mono ?_⟩;rintro e E ⟨v,A,rfl,_,I,u⟩;have J:gH (fQ.of w b) A (Hr r.2.n c) E:=I.sub Z λh p t=>by
   have:Xy c h=some p:=(Gc c h).symm.trans t;exact JG s _ (Py this)
  obtain⟨l,q,K,x⟩:=R.join J;exact⟨v,l,rfl,q,K,x _ _ u⟩
theorem Oi {P:Program} {T:Im} {G:GP} {gs:BA} (y:Ln T G.tab) (x:∀H:fQ gs,Wh P G T.fns H) {a f n:Nat} {m:List GV} {o:List Value} {D:List Nat} {g:GV} {j:OL} (d:Vo T G a f m D=some (g,n,j)) (z:aV P f)
  (E:qL (λ_=>none) m o) (B:gs.env=[]) (b:fQ gs):Calls P f o.toArray b.w λe q=>∃v c,e = .returned v∧gH b c (Hr n j) q∧Rl c g v:=by
 obtain⟨r,t,d⟩:=aF.1 (show ob (Hm T G a f m H0) _=some (g,n,j)from d);obtain⟨F,k,d⟩:=aF.1 d;cases d;rw[Cz y]at t;rcases Is x (H':=r.2) (g:=r.1) t (gH.start b B) E with⟨v,q,c,i,_⟩|⟨_,A⟩
 ·have:=z o.toArray b.w;rw[this]at i;cases i
 ·refine A.mono ?_;rintro e q ⟨v,s,rfl,_,u,l⟩;exact⟨v,s,rfl,u.sub Z λh p C=>by
   have:Xy j h=some p:=(Gc j h).symm.trans C;exact JG k _ (Py this),l⟩
end
theorem L_ {P:Program} {gs:Nat->BA} {L:List bI} (D:∀w S,(∀h∈L,h.p w S)->∃T,Ka (gs T) w λ_=>False) {f n:Nat} {z:List Value} {g:GV} {y:OL}
  (h:∀T (b:fQ (gs T)),Calls P f z.toArray b.w λe s=>∃v c,e = .returned v∧gH b c (Hr n y) s∧Rl c g v) {A:Type} {o:A->Value} {LO:A->List bI}
  (d:∀T (b:fQ (gs T)) (B:fC) (w:World) (V:Value),(∀k,b.mine k->b.w.heap.size<=k)->gH b B (Hr n y) w->Rl B g V->∃x:A,V=o x∧∀q∈LO x,q.p w (λk=>b.w.heap.size<=k)):
  aW P f z.toArray L o (λ_ l=>l) (λx l=>LO x++l):=by
 intro t C H;obtain⟨T,u⟩:=D t C H;refine(h T (.of t u)).mono ?_;rintro e s ⟨v,c,rfl,R,G⟩;obtain⟨x,rfl,F⟩:=d T (.of t u) c s v (λk r=>r.elim id False.elim) R G;refine⟨x,rfl,R.ext,λ_ _=>False,⟨λi m E=>by simp at E,λi k h=>h.elim,λi j k h=>h.elim⟩,λq a=> ?_⟩
 have a:q∈LO x++[]:=a;rw[List.append_nil]at a;exact bI.wide (F q a) (λk r=>⟨.inr (.inl r),λi h=>h.elim⟩)
noncomputable def HO (s:ByteArray):Nat×Nat:=(mR (bQ s),(bQ s).length)
theorem LD {a b:ByteArray} (h:HO a=HO b):a=b:=by
 have c:=YY a b;unfold HO at h;rw[h]at c;have e:SR (mR (bQ b),(bQ b).length) (mR (bQ b),(bQ b).length)=true:=by simp[SR]
 rw[e]at c;have d:a.toList=b.toList:=eq_of_beq c.symm;rw[Lib.toList_data,Lib.toList_data]at d;obtain⟨⟨x⟩⟩:=a;obtain⟨⟨y⟩⟩:=b;simp only at d;rw[d]
noncomputable def YN (a:List GV):Option (Nat×Nat):=List.casesOn (motive:=λ_=>Option (Nat×Nat)) a none λc r=>List.casesOn (motive:=λ_=>Option (Nat×Nat)) r c.asStr λ_ _=>none
abbrev afI:fU ByteArray:=⟨1,Nat.one_pos,λ_ _ a x=>a=[.string x],λh=>by simp[h],λh _=>h⟩
theorem eX.str {S:Nat->Prop} {g:fC} {w:World}:eX S g w YN afI HO:=λgs f y a h _=>by
 cases gs with
 |nil=>cases h
 |cons c gs=>
 cases gs with
 |cons _ _=>cases h
 |nil=>
 have h:c.asStr=some y:=h;obtain⟨v,f,rfl,b,a⟩:=a.of_cons;rw[a.of_nil];rw[qW h]at b;obtain⟨x,rfl,d,e⟩:=b.str_inv;exact⟨x,by unfold HO;rw[<-d,<-e],rfl⟩
theorem VN {c:fC} {V:Value} {n l:Nat} {s:ByteArray} (h:Rl c (.str n l) V) (e:HO s=(n,l)):V = .string s:=by
 obtain⟨x,rfl,a,b⟩:=h.str_inv;have:HO x=HO s:=by rw[e];unfold HO;rw[<-a,<-b]
 rw[LD this]
theorem Dx {c:Type}:∀a b:c,id a=id b->a=b:=λ_ _ h=>h
theorem wU {c d e i:Type} {f:c->e} {g:d->i} (j:∀a b,f a=f b->a=b) (k:∀a b,g a=g b->a=b):∀a b:c×d,(λz:c×d=>(f z.1,g z.2)) a=(λz:c×d=>(f z.1,g z.2)) b->a=b:=λa b h=>by
 obtain⟨l,m⟩:=a;obtain⟨n,o⟩:=b;simp only[Prod.mk.injEq]at h;rw[j _ _ h.1,k _ _ h.2]
theorem HV {g i:Type} {f:g->i} (e:∀a b,f a=f b->a=b):∀{c d:List g},c.map f=d.map f->c=d
 | [],[],_=>rfl
 | [],_::_,h=>by simp at h
 |_::_,[],h=>by simp at h
 |a::c,b::d,h=>by
  simp only[zBa,List.cons.injEq]at h;rw[e _ _ h.1,HV e h.2]
end Go.Gx
section
set_option maxRecDepth 100000
namespace Go.Gx
open Go Go.Sx Go.Proofs Go.Proofs.YtahgemjmgopleaaGreatDoor
def Ps (l:lW):List GV:=l.map λn=> .int .i64 (.ofNat n)
abbrev afj:Nat:=2782272544148574329703548915484139416562471587372346629090892429547018860149309682118537811771073185556707760590527461846276004869770941806974104689717583530206048895217444112283498148464
def mu0:List GV:=[.str afj 78]
def mg0:GV:=(.agg [(.str 1907970655657516625763 9),(.sl 328 0 1 6),(.sl 491 0 1 3)])
def W_:OL:=[(328,328,.cells [(.str 99 1),(.int .i64 (.ofNat 1)),(.int .i64 (.ofNat 0)),(.int .i64 (.ofNat 0)),(.int .i64 (.ofNat 1)),(.int .i64 (.ofNat 0))]),
 (410,410,.cells (Ps [21,0,35,0,12,0,5,0])),
 (475,475,.cells (Ps [27,0,12,0])),
 (483,483,.cells [(.int .i64 (.ofNat 0)),(.sl 475 0 2 2)]),
 (491,491,.cells [(.str 7891302 3),(.sl 410 0 4 2),(.sl 483 0 1 2)])]
set_option maxHeartbeats 4000000 in
theorem me0:Vo Hf gp 4000 10 mu0 [328,410,475,483,491]=some (mg0,651,W_):=by kernel_rfl
noncomputable def LQ (f:Nat) (a:List GV) (H:GH):Option (GV×GH):=bif Nat.beq f 10 then(bif isS a (afj,78)then Ru mg0 651 W_ H else Zn f a H)else Zn f a H
noncomputable def agW:GP:=⟨zA,gp.cat,LQ,gp.exn⟩
theorem Jy {T:Nat} {k:fQ (gl T)} {w:World} {e:fC} {H i:GH} {g:GV} {d:List GV} {j:gV} {f:Nat} (h:LQ f d H=some (g,i)) (R:gH k e H w) (a:qL e d j):lX Tryz.prog k e f j w g i:=by
 unfold LQ at h;cases b:Nat.beq f 10 with
 |false=>rw[b]at h;exact Pr h R a
 | true =>
  rw[b]at h;cases c:isS d (afj,78)with
  |false=>rw[c]at h;exact Pr h R a
  |true=>
   rw[c]at h;rw[zA3 b];rw[Zs c]at a;obtain⟨V,rfl,n⟩:=a.one;obtain⟨x,rfl,l,m⟩:=n.str_inv;exact Vp (gs:=gl T) (gs2:=gl T) Z Z Cq Xx me0 Tryz.call10 (qL.cons (PO l m) .nil) h R
theorem adB {T:Nat} (a:fQ (gl T)):Wh Tryz.prog agW Hf.fns a:=⟨(Xx a).tab,(Xx a).mixed,(Xx a).fns,λh d w c R b=>Jy h R b,(Xx a).exn,(Xx a).cat⟩
abbrev afk:Nat:=389508662282641590667193222818340124320258541324365428891725188086024207717159085315988594649689196209224937564443540662539472250600169891651064703471849739348391035222282332234873775082367041688393518087397133674180373991176283487897321372674739070210027174703280392956383328243748401776
def mu1:List GV:=[.str afk 120]
def mg1:GV:=(.agg [(.str 140756725746397274546925161 11),(.sl 410 0 1 6),(.sl 686 0 2 3)])
def Xa:OL:=[(410,410,.cells [(.str 109 1),(.int .i64 (.ofNat 2)),(.int .i64 (.ofNat 0)),(.int .i64 (.ofNat 0)),(.int .i64 (.ofNat 0)),(.int .i64 (.ofNat 0))]),
 (497,497,.cells (Ps [41,0,5,0,21,0,12,0])),
 (524,524,.cells [(.int .i64 (.ofNat 3)),(.int .i64 (.ofNat 0))]),
 (532,532,.cells [(.int .i64 (.ofNat 0)),(.sl 524 0 1 2)]),
 (643,643,.cells (Ps [41,0,19,0,5,0,19,0,21,0,12,0])),
 (670,670,.cells [(.int .i64 (.ofNat 2)),(.int .i64 (.ofNat 0))]),
 (678,678,.cells [(.int .i64 (.ofNat 0)),(.sl 670 0 1 2)]),
 (686,686,.cells [(.str 435777791340 5),(.sl 497 0 4 2),(.sl 532 0 1 2),(.str 491328400997 5),(.sl 643 0 6 2),(.sl 678 0 1 2)])]
set_option maxHeartbeats 4000000 in
theorem me1:Vo Hf agW 4000 10 mu1 [410,497,524,532,643,670,678,686]=some (mg1,983,Xa):=by kernel_rfl
noncomputable def TN (f:Nat) (a:List GV) (H:GH):Option (GV×GH):=bif Nat.beq f 10 then(bif isS a (afk,120)then Ru mg1 983 Xa H else LQ f a H)else LQ f a H
noncomputable def agX:GP:=⟨zA,gp.cat,TN,gp.exn⟩
theorem WP {T:Nat} {k:fQ (gl T)} {w:World} {e:fC} {H i:GH} {g:GV} {d:List GV} {j:gV} {f:Nat} (h:TN f d H=some (g,i)) (R:gH k e H w) (a:qL e d j):lX Tryz.prog k e f j w g i:=by
 unfold TN at h;cases b:Nat.beq f 10 with
 |false=>rw[b]at h;exact Jy h R a
 | true =>
  rw[b]at h;cases c:isS d (afk,120)with
  |false=>rw[c]at h;exact Jy h R a
  |true=>
   rw[c]at h;rw[zA3 b];rw[Zs c]at a;obtain⟨V,rfl,n⟩:=a.one;obtain⟨x,rfl,l,m⟩:=n.str_inv;exact Vp (gs:=gl T) (gs2:=gl T) Z Z Cq adB me1 Tryz.call10 (qL.cons (PO l m) .nil) h R
theorem agV {T:Nat} (a:fQ (gl T)):Wh Tryz.prog agX Hf.fns a:=⟨(Xx a).tab,(Xx a).mixed,(Xx a).fns,λh d w c R b=>WP h R b,(Xx a).exn,(Xx a).cat⟩
noncomputable abbrev gp2:GP:=agX
theorem akE {T:Nat} (a:fQ (gl T)):Wh Tryz.prog gp2 Hf.fns a:=agV a
end Go.Gx
end
namespace Go.Gx
open Go Go.Sx Go.RowKit
structure Hd (n:Nat) (os:OL) (ρ:fC) (w:World) (S:Nat->Prop):Prop where
 live:∀h o,(Hr n os).get h=some o->∃l,ρ h=some l∧S l.b∧Az ρ w l o
 inj:∀h h' o o' l l',(Hr n os).get h=some o->(Hr n os).get h'=some o'->ρ h=some l->ρ h'=some l'->l.b=l'.b->h=h'
 fresh:∀h,n<=h->ρ h=none
 dense:∀h,h<n->∃l,ρ h=some l
 vers:∀h v l,(Hr n os).ver h=some v->ρ h=some l->∃lv,ρ v=some lv∧w.heap[l.b]? = some lv.x∧(Hr n os).get h=some lv.o
theorem Hd.mono {n:Nat} {p:OL} {f:fC} {w w':World} {S g:Nat->Prop} (H:Hd n p f w S) (h:∀k,S k->k<w.heap.size->g k∧w'.heap[k]? = w.heap[k]?):Hd n p f w' g:=by
 refine⟨λk o s=> ?_,H.inj,H.fresh,H.dense,λk v l m j=> ?_⟩
 ·obtain⟨l,a,b,c⟩:=H.live k o s;obtain⟨d,e⟩:=h _ b c.lt;exact⟨l,a,d,c.move (fC.le_refl f) e⟩
 ·obtain⟨u,a,b,c⟩:=H.vers k v l m j;obtain⟨o,t⟩:=tZ.1 m;obtain⟨x,i,q,r⟩:=H.live k o (iH.2 ⟨v,t⟩);rw[j]at i;cases i;exact⟨u,a,by rw[(h _ q r.lt).2];exact b,c⟩
theorem gH.hd {gs:BA} {b:fQ gs} {n:Nat} {d:OL} {ρ:fC} {w:World} {S:Nat->Prop} (R:gH b ρ (Hr n d) w) (e:∀k,b.mine k->S k):Hd n d ρ w S:=
 ⟨λh o f=>let ⟨l,a,b,c⟩:=R.live h o f;⟨l,a,e _ b,c⟩,R.inj,R.fresh,R.dense,R.vers⟩
def Qx (n:Nat) (b:OL) (g:GV) (V:Value):bI where
 p w S:=∃a,Hd n b a w S∧Rl a g V
 mono:=fun⟨a,h,r⟩ k=>⟨a,h.mono k,r⟩
def Hd.O (n:Nat) (a:OL) (c:fC) (k:Nat):Prop:=∃h o l,(Hr n a).get h=some o∧c h=some l∧l.b=k
def Hd.base (n:Nat) (os:OL) (ρ:fC) (w:World):fQ noG:=⟨w,Hd.O n os ρ,λ_ h=>absurd h List.not_mem_nil⟩
theorem Hd.rel {n:Nat} {b:OL} {ρ:fC} {w:World} {S:Nat->Prop} (H:Hd n b ρ w S):gH (Hd.base n b ρ w) ρ (Hr n b) w:=
 ⟨DW.refl w,λh o d=>let ⟨l,a,_,c⟩:=H.live h o d;⟨l,a,.inr ⟨h,o,l,d,a,rfl⟩,c⟩,H.inj,H.fresh,H.dense,H.vers,λi v e=>by simp[Hd.base,noG]at e⟩
noncomputable def Hv (H:GH) (b:OL):Bool:=List.rec (motive:=λ_=>Bool) true (λx _ a=>Option.casesOn (motive:=λ_=>Bool) (H.ver x.1) false λv=>bif Nat.beq v x.2.1 then a else false) b
theorem Se {H:GH}:∀{a:OL},Hv H a=true->∀x∈a,H.ver x.1=some x.2.1
 | [],_,x,b=>by cases b
 | y :: a, h, x, b => by
  have h:Option.casesOn (motive:=λ_=>Bool) (H.ver y.1) false (λv=>bif Nat.beq v y.2.1 then Hv H a else false)=true:=h;cases c:H.ver y.1 with
  |none=>rw[c]at h;cases h
  | some v =>
   rw[c]at h;obtain⟨d,f⟩:=bV.1 (show(bif Nat.beq v y.2.1 then(some (Hv H a))else none)=some true by
    have h:(bif Nat.beq v y.2.1 then Hv H a else false)=true:=h;cases e:Nat.beq v y.2.1<;>rw[e]at h<;>first|cases h|(show some (Hv H a)=some true;rw[show Hv H a=true from h]))
   rcases zAl.1 b with rfl|b
   ·rw[c,zA3 d]
   ·exact Se (Option.some.inj f) x b
noncomputable def okV (a:OL) (r:OR):Bool:=Option.casesOn (motive:=λ_=>Bool) r false λr=>Option.casesOn (motive:=λ_=>Bool) r.1.asB false λb=>bif b then Hv r.2 a else false
theorem II {d:OL} {r:OR} (h:okV d r=true):∃a,r=some (.bool true,a)∧Hv a d=true:=by
 cases r with
 |none=>cases h
 | some r =>
  obtain⟨g,a⟩:=r;have h:Option.casesOn (motive:=λ_=>Bool) g.asB false (λb=>bif b then Hv a d else false)=true:=h;cases c:g.asB with
  |none=>rw[c]at h;cases h
  |some b=>
   rw[c]at h;cases b with
   |false=>cases h
   |true=>exact⟨a,by rw[Dt c],h⟩
theorem GL {P:Program} {G:GP} {x:FT} (F:∀T:fQ noG,Wh P G x T) {fuel f n:Nat} {d:OL} {g:GV} {V:Value} (H:aV P f) (h:∃r,UW G x fuel f [g] (Hr n d)=some (.bool true,r)∧Hv r d=true) {w:World} {S:Nat->Prop} (Q:(Qx n d g V).p w S):
  Calls P f #[V] w λe u=>e = .returned (.bool true)∧NF w u:=by
 obtain⟨U,y,M⟩:=Q;obtain⟨r,D,E⟩:=h;rcases Is F D y.rel (.cons M .nil)with⟨v,u,W,m,_⟩|⟨_,I⟩
 ·have:=H #[V] w;rw[this]at m;cases m
 ·refine I.mono ?_;rintro e u ⟨v,X,rfl,j,c,N⟩;refine⟨by rw[N.bool_inv],c.ext.os,c.ext.tape,c.ext.output,c.ext.size,λk K=> ?_⟩
  by_cases A:Hd.O n d U k
  ·obtain⟨i,o,l,J,z,rfl⟩:=A;obtain⟨t,q⟩:=iH.1 J;have L:(i,t,o)∈d:=Py ((Gc d i).symm.trans q);obtain⟨R,a,b,_⟩:=y.vers i t l (tZ.2 ⟨o,q⟩) z;obtain⟨s,B,C,_⟩:=c.vers i t l (Se E _ L) (j _ _ z);have:R=s:=by have:=j _ _ a;rw[B]at this;exact(Option.some.inj this).symm
   subst this;exact C.trans b.symm
  ·exact c.ext.block k K A
end Go.Gx
namespace Go.Proofs.YtahgemjmgopleaaGreatDoor
open Go Go.Sx Go.Gx
set_option maxRecDepth 100000
abbrev yU:=ByteArray×(Value×eY)×(Value×List (Int×(Value×eY)))
def wK (z:yU):eY×List (Int×eY):=(z.2.1.2,z.2.2.2.map λs=>(s.1,s.2.2))
def HW:ByteArray:=(ByteArray.mk #[112,114,111,103,114,97,109,32,99,111,108,111,117,114,105,110,103,59,10,118,97,114,32,99,32,58,32,48,32,46,46,32,110,59,10,114,117,108,101,32,102,105,120,58,32,115,111,109,101,40,113,46,99,32,61,61,32,99,41,32,45,62,32,99,32,58,61,32,109,101,120,40,113,46,99,41,59,10])
def JH:Je:=[((ByteArray.mk #[99]),(1:Int),(0:Int),(0:Int),(1:Int),(0:Int))]
def GT:MR:=[([(21,0),(35,0),(12,0),(5,0)],[(0,[(27,0),(12,0)])])]
def adJ:List ((Nat×Nat)×eY×List (Int×eY)):=[((7891302,3),[(21,0),(35,0),(12,0),(5,0)],[(0,[(27,0),(12,0)])])]
def HX:ByteArray:=(ByteArray.mk #[112,114,111,103,114,97,109,32,105,110,100,101,112,101,110,100,101,110,116,59,10,118,97,114,32,109,32,58,32,98,111,111,108,59,10,114,117,108,101,32,108,101,97,118,101,58,32,109,32,38,38,32,115,111,109,101,40,113,46,109,41,32,45,62,32,109,32,58,61,32,102,97,108,115,101,59,10,114,117,108,101,32,101,110,116,101,114,58,32,33,109,32,38,38,32,33,115,111,109,101,40,113,46,109,41,32,45,62,32,109,32,58,61,32,116,114,117,101,59,10])
def JI:Je:=[((ByteArray.mk #[109]),(2:Int),(0:Int),(0:Int),(0:Int),(0:Int))]
def GU:MR:=[([(41,0),(5,0),(21,0),(12,0)],[(0,[(3,0)])]),([(41,0),(19,0),(5,0),(19,0),(21,0),(12,0)],[(0,[(2,0)])])]
def adK:List ((Nat×Nat)×eY×List (Int×eY)):=[((435777791340,5),[(41,0),(5,0),(21,0),(12,0)],[(0,[(3,0)])]),((491328400997,5),[(41,0),(19,0),(5,0),(19,0),(21,0),(12,0)],[(0,[(2,0)])])]
def PF (V:Value):bI:=⟨λw S=>(Qx 651 W_ mg0 V).p w S∨(Qx 983 Xa mg1 V).p w S,λ{w w' S S'} h k=>by
 rcases h with h|h
 ·exact .inl ((Qx 651 W_ mg0 V).mono h k)
 exact .inr (((Qx 983 Xa mg1 V).mono h k))⟩
noncomputable def Yf {R:Type} (D:MR) (k:List yU->Option R):Option R:=open Classical in if h:∃r,∀z:List yU,z.map wK=D->k z=some r then some (Classical.choose h)else none
theorem Wp {R:Type} {D:MR} {k:List yU->Option R} {r:R} (h:Yf D k=some r) (z:List yU) (a:z.map wK=D):k z=some r:=by
 unfold Yf at h;split at h
 ·rename_i e;rw[<-Option.some.inj h];exact Classical.choose_spec e z a
 cases h
theorem abh {R:Type} {D:MR} {k:List yU->Option R} {r:R} (h:∀z:List yU,z.map wK=D->k z=some r):Yf D k=some r:=by
 have e:∃r,∀z:List yU,z.map wK=D->k z=some r:=⟨r,h⟩
 unfold Yf;rw[dif_pos e];let z:List yU:=D.map λx=>(ByteArray.empty,(undef,x.1),(undef,x.2.map λs=>(s.1,(undef,s.2))))
 have c:z.map wK=D:=by
  show(D.map _).map wK=D;rw[List.map_map]
  conv=>rhs;rw[<-List.map_id D]
  refine List.map_congr_left λx _=>?_;obtain⟨a,b⟩:=x;simp[wK,Function.comp_def]
 rw[<-Classical.choose_spec e z c,h z c]
def kV (a:Nat) (b:ByteArray):Option VP:=if b=HW then some ((ByteArray.mk #[99,111,108,111,117,114,105,110,103]),JH,GT)else if b=HX then some ((ByteArray.mk #[105,110,100,101,112,101,110,100,101,110,116]),JI,GU)else none
theorem Tv:aV Tryz.prog 10:=Tryz.call10
theorem O_:aV Tryz.prog 169:=Tryz.call169
theorem RP:HO HW=(2782272544148574329703548915484139416562471587372346629090892429547018860149309682118537811771073185556707760590527461846276004869770941806974104689717583530206048895217444112283498148464,78):=by kernel_rfl
theorem ZW:HO (ByteArray.mk #[99,111,108,111,117,114,105,110,103])=(1907970655657516625763,9):=by kernel_rfl
theorem aab:Na (Hr 651 W_) 6 (dP 1 YN (dP 1 (dI .i64) (dP 1 (dI .i64) (dP 1 (dI .i64) (dP 1 (dI .i64) (dI .i64)))))) (.sl 328 0 1 6)=some (JH.map λz=>(HO z.1,z.2.1,z.2.2.1,z.2.2.2.1,z.2.2.2.2.1,z.2.2.2.2.2)):=by kernel_rfl
theorem Xh:Na (Hr 651 W_) 3 (dP 1 YN (dP 1 (dS (Hr 651 W_) 2 (dP 1 (dI .i64) (dI .i64))) (dS (Hr 651 W_) 2 (dP 1 (dI .i64) (dS (Hr 651 W_) 2 (dP 1 (dI .i64) (dI .i64))))))) (.sl 491 0 1 3)=some adJ:=by kernel_rfl
theorem ada:adJ.map (λy=>(y.2.1,y.2.2))=GT:=by kernel_rfl
theorem ZY (r:VP) (h:some ((ByteArray.mk #[99,111,108,111,117,114,105,110,103]),JH,GT)=some r):aW Tryz.prog 10 #[vS HW] [Gb 0 (cellsOf J_ Au)] (λx:Value×Value×{z:List yU // z.map wK=r.2.2}=>Value.agg #[vS r.1,x.1,x.2.1]) (λx l=>l) (λx l=>Sl aP x.1 r.2.1::Sl aJ x.2.1 x.2.2.1::PF (Value.agg #[vS r.1,x.1,x.2.1])::l):=by
 cases h;refine L_ (gs:=gl) (LO:=λx:Value×Value×{z:List yU // z.map wK=GT}=>[Sl aP x.1 JH,Sl aJ x.2.1 x.2.2.1,PF (Value.agg #[vS (ByteArray.mk #[99,111,108,111,117,114,105,110,103]),x.1,x.2.1])]) TP (λT b=>Oi Cq Xx me0 Tv (.cons (PO (x:=HW) (congrArg Prod.fst RP).symm (congrArg Prod.snd RP).symm) .nil) Z b) ?_;intro T b B w V a R g;have y:=g;obtain⟨f,rfl,c,_⟩:=g.agg_inv;obtain⟨C,f,rfl,m,c⟩:=c.of_cons;obtain⟨j,f,rfl,n,c⟩:=c.of_cons;obtain⟨k,rfl,o⟩:=c.one;obtain rfl:=VN m ZW;obtain⟨A,v,s⟩:=Df R a (eX.pair eX.str (eX.pair (eX.int .i64) (eX.pair (eX.int .i64) (eX.pair (eX.int .i64) (eX.pair (eX.int .i64) (eX.int .i64)))))) n aab;have e:A=JH:=HV (wU (λ_ _=>LD) (wU Dx (wU Dx (wU Dx (wU Dx Dx))))) v;subst e;obtain⟨i,u,t⟩:=Df (r:=aJ) R a (eX.pair eX.str (eX.pair (eX.sl R a (eX.pair (eX.int .i64) (eX.int .i64))) (eX.sl R a (eX.pair (eX.int .i64) (eX.sl R a (eX.pair (eX.int .i64) (eX.int .i64))))))) o Xh;have d:i.map wK=GT:=by
  rw[<-ada,<-u,List.map_map];refine List.map_congr_left λx _=>?_;simp[wK,Function.comp_def]
 exact⟨(j,k,⟨i,d⟩),rfl,zAv.2 ⟨s,zAv.2 ⟨t,zAv.2 ⟨.inl (⟨B,gH.hd R a,y⟩),λq p=>absurd p List.not_mem_nil⟩⟩⟩⟩
theorem aaI:okV W_ (Hm Hf gp0 4000 169 [mg0] (Hr 651 W_))=true:=by kernel_rfl
theorem RQ:HO HX=(389508662282641590667193222818340124320258541324365428891725188086024207717159085315988594649689196209224937564443540662539472250600169891651064703471849739348391035222282332234873775082367041688393518087397133674180373991176283487897321372674739070210027174703280392956383328243748401776,120):=by kernel_rfl
theorem ZX:HO (ByteArray.mk #[105,110,100,101,112,101,110,100,101,110,116])=(140756725746397274546925161,11):=by kernel_rfl
theorem aac:Na (Hr 983 Xa) 6 (dP 1 YN (dP 1 (dI .i64) (dP 1 (dI .i64) (dP 1 (dI .i64) (dP 1 (dI .i64) (dI .i64)))))) (.sl 410 0 1 6)=some (JI.map λz=>(HO z.1,z.2.1,z.2.2.1,z.2.2.2.1,z.2.2.2.2.1,z.2.2.2.2.2)):=by kernel_rfl
theorem Xi:Na (Hr 983 Xa) 3 (dP 1 YN (dP 1 (dS (Hr 983 Xa) 2 (dP 1 (dI .i64) (dI .i64))) (dS (Hr 983 Xa) 2 (dP 1 (dI .i64) (dS (Hr 983 Xa) 2 (dP 1 (dI .i64) (dI .i64))))))) (.sl 686 0 2 3)=some adK:=by kernel_rfl
theorem adb:adK.map (λy=>(y.2.1,y.2.2))=GU:=by kernel_rfl
theorem ZZ (r:VP) (h:some ((ByteArray.mk #[105,110,100,101,112,101,110,100,101,110,116]),JI,GU)=some r):aW Tryz.prog 10 #[vS HX] [Gb 0 (cellsOf J_ Au)] (λx:Value×Value×{z:List yU // z.map wK=r.2.2}=>Value.agg #[vS r.1,x.1,x.2.1]) (λx l=>l) (λx l=>Sl aP x.1 r.2.1::Sl aJ x.2.1 x.2.2.1::PF (Value.agg #[vS r.1,x.1,x.2.1])::l):=by
 cases h;refine L_ (gs:=gl) (LO:=λx:Value×Value×{z:List yU // z.map wK=GU}=>[Sl aP x.1 JI,Sl aJ x.2.1 x.2.2.1,PF (Value.agg #[vS (ByteArray.mk #[105,110,100,101,112,101,110,100,101,110,116]),x.1,x.2.1])]) TP (λT b=>Oi Cq adB me1 Tv (.cons (PO (x:=HX) (congrArg Prod.fst RQ).symm (congrArg Prod.snd RQ).symm) .nil) Z b) ?_;intro T b B w V a R g;have y:=g;obtain⟨f,rfl,c,_⟩:=g.agg_inv;obtain⟨C,f,rfl,m,c⟩:=c.of_cons;obtain⟨j,f,rfl,n,c⟩:=c.of_cons;obtain⟨k,rfl,o⟩:=c.one;obtain rfl:=VN m ZX;obtain⟨A,v,s⟩:=Df R a (eX.pair eX.str (eX.pair (eX.int .i64) (eX.pair (eX.int .i64) (eX.pair (eX.int .i64) (eX.pair (eX.int .i64) (eX.int .i64)))))) n aac;have e:A=JI:=HV (wU (λ_ _=>LD) (wU Dx (wU Dx (wU Dx (wU Dx Dx))))) v;subst e;obtain⟨i,u,t⟩:=Df (r:=aJ) R a (eX.pair eX.str (eX.pair (eX.sl R a (eX.pair (eX.int .i64) (eX.int .i64))) (eX.sl R a (eX.pair (eX.int .i64) (eX.sl R a (eX.pair (eX.int .i64) (eX.int .i64))))))) o Xi;have d:i.map wK=GU:=by
  rw[<-adb,<-u,List.map_map];refine List.map_congr_left λx _=>?_;simp[wK,Function.comp_def]
 exact⟨(j,k,⟨i,d⟩),rfl,zAv.2 ⟨s,zAv.2 ⟨t,zAv.2 ⟨.inr ((⟨B,gH.hd R a,y⟩)),λq p=>absurd p List.not_mem_nil⟩⟩⟩⟩
theorem aaJ:okV Xa (Hm Hf gp0 4000 169 [mg1] (Hr 983 Xa))=true:=by kernel_rfl
theorem Kz (a:Nat) {b:ByteArray} (r:VP) (h:kV a b=some r):aW Tryz.prog 10 #[vS b] [Gb 0 (cellsOf J_ Au)] (λx:Value×Value×{z:List yU // z.map wK=r.2.2}=>Value.agg #[vS r.1,x.1,x.2.1]) (λx l=>l) (λx l=>Sl aP x.1 r.2.1::Sl aJ x.2.1 x.2.2.1::PF (Value.agg #[vS r.1,x.1,x.2.1])::l):=by
 unfold kV at h;by_cases c:b=HW
 ·subst c;exact ZY r ((if_pos Z).symm.trans h)
 rw[if_neg c]at h;by_cases d:b=HX
 ·subst d;exact ZZ r ((if_pos Z).symm.trans h)
 rw[if_neg d]at h;cases h
theorem Z_ (f:Nat):kV f HW=some ((ByteArray.mk #[99,111,108,111,117,114,105,110,103]),JH,GT):=by
 unfold kV;exact if_pos Z
theorem aaa (f:Nat):kV f HX=some ((ByteArray.mk #[105,110,100,101,112,101,110,100,101,110,116]),JI,GU):=by
 unfold kV;rw[if_neg (by decide +kernel)];exact if_pos Z
theorem OX:aV Tryz.prog 122:=Tryz.call122
theorem Xl:okV W_ (Hm Hf gp0 4000 122 [mg0] (Hr 651 W_))=true:=by kernel_rfl
theorem Xm:okV Xa (Hm Hf gp0 4000 122 [mg1] (Hr 983 Xa))=true:=by kernel_rfl
def Dz (fuel:Nat) (a:ByteArray×List (ByteArray×Int×Int×Int×Int×Int)×List (yU)):Option Bool:=some true
theorem No (a:Nat) {b:ByteArray×List (ByteArray×Int×Int×Int×Int×Int)×List (yU)} (f g:Value) (r:Bool) (h:Dz a b=some r):
  aW Tryz.prog 122 #[Value.agg #[vS b.1,f,g]] [Sl aP f b.2.1,Sl aJ g b.2.2,PF (Value.agg #[vS b.1,f,g])] (λx:Unit=>vB (r)) (λx l=>l) (λ_ l=>l):=by
 cases h;intro w S z;have s:Calls Tryz.prog 122 #[Value.agg #[vS b.1,f,g]] w λe t=>e = .returned (.bool true)∧NF w t:=by
  rcases z _ (zAq (i:=2) rfl)with p|p
  ·refine GL (fuel:=4000) acB OX ?_ p;obtain⟨n,c,o⟩:=II Xl;rw[Cz (G:=gp0) Cq]at c;exact⟨n,c,o⟩
  refine GL (fuel:=4000) acB OX ?_ p;obtain⟨n,c,o⟩:=II Xm;rw[Cz (G:=gp0) Cq]at c;exact⟨n,c,o⟩
 refine s.mono ?_;rintro e t ⟨rfl,d⟩;exact⟨(),rfl,⟨d.os,d.tape,d.output,d.size,λk u _=>d.block k u⟩,λ_ _=>False,⟨λi m v=>by simp at v,λi k h=>h.elim,λi j k h=>h.elim⟩,λq y=>by simp at y⟩
def DF (fuel:Nat) (a:ByteArray×List (ByteArray×Int×Int×Int×Int×Int)×List (yU)):Option Bool:=some true
theorem NB (a:Nat) {b:ByteArray×List (ByteArray×Int×Int×Int×Int×Int)×List (yU)} (f g:Value) (r:Bool) (h:DF a b=some r):
  aW Tryz.prog 169 #[Value.agg #[vS b.1,f,g]] [Sl aP f b.2.1,Sl aJ g b.2.2,PF (Value.agg #[vS b.1,f,g])] (λx:Unit=>vB (r)) (λx l=>l) (λ_ l=>l):=by
 cases h;intro w S z;have s:Calls Tryz.prog 169 #[Value.agg #[vS b.1,f,g]] w λe t=>e = .returned (.bool true)∧NF w t:=by
  rcases z _ (zAq (i:=2) rfl)with p|p
  ·refine GL (fuel:=4000) acB O_ ?_ p;obtain⟨n,c,o⟩:=II aaI;rw[Cz (G:=gp0) Cq]at c;exact⟨n,c,o⟩
  refine GL (fuel:=4000) acB O_ ?_ p;obtain⟨n,c,o⟩:=II aaJ;rw[Cz (G:=gp0) Cq]at c;exact⟨n,c,o⟩
 refine s.mono ?_;rintro e t ⟨rfl,d⟩;exact⟨(),rfl,⟨d.os,d.tape,d.output,d.size,λk u _=>d.block k u⟩,λ_ _=>False,⟨λi m v=>by simp at v,λi k h=>h.elim,λi j k h=>h.elim⟩,λq y=>by simp at y⟩
end Go.Proofs.YtahgemjmgopleaaGreatDoor
namespace Go.Proofs.YtahgemjmgopleaaGreatDoor
open Go Go.Sx
abbrev ahJ:=Gn
abbrev PRG:=ByteArray×(List ahJ)×(List yU)
abbrev GRF:=List Int×h_
abbrev SCN:=PRG×GRF×Int×bO
abbrev WLK:=SCN×bO×Int×eY
inductive E where
 |lf (o a:Int)
 |un (o:Int) (x:E)
 |ag (o:Int) (x:E)
 |bi (o:Int) (x y:E)
 |ite (x y z:E)
def E.ts:E->eY
 |lf o a=>[(o,a)]
 |un o x=>(o,0)::x.ts
 |ag o x=>(o,0)::x.ts
 |bi o x y=>(o,0)::(x.ts++y.ts)
 |ite x y z=>(43,0)::(x.ts++(y.ts++z.ts))
def E.depth:E->Nat
 |lf _ _=>1
 |un _ x=>x.depth+1
 |ag _ x=>x.depth+1
 |bi _ x y=>max x.depth y.depth+1
 |ite x y z=>max x.depth (max y.depth z.depth)+1
def E.arOk:E->Bool
 |lf o _=>decide (1<=o)&&decide (o<=17)
 |un o x=>decide (18<=o)&&decide (o<=19)&&x.arOk
 |ag o x=>decide (20<=o)&&decide (o<=29)&&x.arOk
 |bi o x y=>decide (30<=o)&&decide (o<=42)&&x.arOk&&y.arOk
 |ite x y z=>x.arOk&&y.arOk&&z.arOk
theorem OV {a:Type} [Inhabited a] {T pre rest:List a} {x:a} {k:Nat} (b:T=pre++x::rest) (c:pre.length=k):at' T (k:Int)=x:=by
 subst b;exact Wr pre rest x k c
theorem dH {k:Nat} (h:k<1000000):wI .i64 ((k:Int)+1)=((k+1:Nat):Int):=by rw[wr (by omega) (by omega)];rfl
theorem Yg (f:Nat) {o:Int} (a:1<=o) (b:o<=43):zY f o=some (if o<=17 then 0 else if o<=29 then 1 else if o<=42 then 2 else 3):=by
 unfold zY Bz;rw[if_neg (by omega)];simp only[zA8];rw[if_neg (by omega)];split
 ·rfl
 ·split
  ·rfl
  ·split<;>rfl
theorem YW {F:Nat} {T c rest:eY} {t:eL} {k m a:Nat} {b:Nat} (d:T=c++t::rest) (g:c.length=k) (i:k<1000) (n:m<3000) (e:zY F t.1=some ((a:Nat):Int)) (f:a<=3) (j:m+a≠0):
  bK (mP F T) (b+1) ((k:Int),(m:Int))=if m+a=1 then some (((k+1:Nat):Int))else bK (mP F T) b (((k+1:Nat):Int),((m+a - 1:Nat):Int)):=by
 have l:k<T.length:=by rw[d];simp;omega
 show mP F T ((k:Int),(m:Int)) (bK (mP F T) b)=_;unfold mP;dsimp only;rw[if_pos (by omega),cO (by omega),OV d g,aZ e,if_neg (by omega),wr (x:=((a:Nat):Int) - 1) (by omega) (by omega),wr (by omega) (by omega),dH (by omega)];by_cases h:m+a=1
 ·rw[if_pos h,if_pos (by omega)]
 ·rw[if_neg h,if_neg (by omega)];have:(m:Int)+((a:Int) - 1)=((m+a - 1:Nat):Int):=by omega
  rw[this]
theorem aco (F:Nat) (T:eY) (H:T.length<=900):∀(e:E),e.arOk=true->∀(c k m:Nat) (d b:eY),T=d++(e.ts++b)->d.length=k->1<=m->m+2*(e.ts++b).length<=1900->e.ts.length<=c->
  bK (mP F T) c ((k:Int),(m:Int))=if m=1 then some (((k+e.ts.length:Nat):Int))else bK (mP F T) (c - e.ts.length) (((k+e.ts.length:Nat):Int),((m - 1:Nat):Int)):=by
 have r:∀{t:eL} {l b d:eY} {c k m:Nat},T=d++((t::l)++b)->d.length=k->(t::l).length<=c->1<=t.1->t.1<=43->1<=m->m+2*((t::l)++b).length<=1900->∀a:Nat,(if t.1<=17 then 0 else if t.1<=29 then 1 else if t.1<=42 then 2 else 3:Int)=a->a<=3->∃f,c=f+1∧
   bK (mP F T) c ((k:Int),(m:Int))=if m+a=1 then some (((k+1:Nat):Int))else bK (mP F T) f (((k+1:Nat):Int),((m+a - 1:Nat):Int)):=by
  intro t l b d c k m n p q v w i j a I B;have A:=congrArg List.length n;simp only[zAi,zAh]at A j q;obtain⟨f,rfl⟩:∃f,c=f+1:=⟨c - 1,by omega⟩
  exact⟨f,rfl,YW (rest:=l++b) (by simpa using n) p (by omega) (by omega) (by rw[Yg F v w,I]) B (by omega)⟩
 intro e
 induction e with
 |lf o a=>
  intro g c k m d b n p i j q;simp only[E.arOk,zA1,zA8]at g;obtain⟨f,rfl,h⟩:=r (t:=(o,a)) (l:=[]) n p q (by dsimp only;omega) (by dsimp only;omega) i j 0 (by rw[if_pos (by dsimp only;omega)];rfl) (by omega);rw[h];rfl
 |un o x C=>
  intro g c k m d b n p i j q;simp only[E.arOk,zA1,zA8]at g;obtain⟨f,rfl,h⟩:=r (t:=(o,0)) (l:=x.ts) n p q (by dsimp only;omega) (by dsimp only;omega) i j 1 (by rw[if_neg (by dsimp only;omega),if_pos (by dsimp only;omega)];rfl) (by omega);simp only[E.ts,zAh]at q j ⊢;rw[h,if_neg (by omega)];have:=C g.2 f (k+1) m (d++[(o,0)]) b (by rw[n];simp[E.ts]) (by simp[p]) i (by simp at j ⊢;omega) (by omega);rw[show m+1 - 1=m by omega,this,show k+1+x.ts.length=k+(x.ts.length+1) by omega,show f+1 - (x.ts.length+1)=f - x.ts.length by omega]
 |ag o x C=>
  intro g c k m d b n p i j q;simp only[E.arOk,zA1,zA8]at g;obtain⟨f,rfl,h⟩:=r (t:=(o,0)) (l:=x.ts) n p q (by dsimp only;omega) (by dsimp only;omega) i j 1 (by rw[if_neg (by dsimp only;omega),if_pos (by dsimp only;omega)];rfl) (by omega);simp only[E.ts,zAh]at q j ⊢;rw[h,if_neg (by omega)];have:=C g.2 f (k+1) m (d++[(o,0)]) b (by rw[n];simp[E.ts]) (by simp[p]) i (by simp at j ⊢;omega) (by omega);rw[show m+1 - 1=m by omega,this,show k+1+x.ts.length=k+(x.ts.length+1) by omega,show f+1 - (x.ts.length+1)=f - x.ts.length by omega]
 |bi o x y s u=>
  intro g c k m d b n p i j q;simp only[E.arOk,zA1,zA8]at g;obtain⟨f,rfl,h⟩:=r (t:=(o,0)) (l:=x.ts++y.ts) n p q (by dsimp only;omega) (by dsimp only;omega) i j 2 (by rw[if_neg (by dsimp only;omega),if_neg (by dsimp only;omega),if_pos (by dsimp only;omega)];rfl) (by omega);simp only[E.ts,zAh,zAi]at q j ⊢;rw[h,if_neg (by omega)];have v:=s g.1.2 f (k+1) (m+1) (d++[(o,0)]) (y.ts++b) (by rw[n];simp[E.ts]) (by simp[p]) (by omega) (by simp at j ⊢;omega) (by omega);have w:=u g.2 (f - x.ts.length) (k+1+x.ts.length) m (d++((o,0)::x.ts)) b (by rw[n];simp[E.ts]) (by simp[p];omega) (by omega) (by simp at j ⊢;omega) (by omega);rw[show m+2 - 1=m+1 by omega,v,if_neg (by omega),show m+1 - 1=m by omega,w,show k+1+x.ts.length+y.ts.length=k+(x.ts.length+y.ts.length+1) by omega,show f+1 - (x.ts.length+y.ts.length+1)=f - x.ts.length - y.ts.length by omega]
 |ite x y z s u D=>
  intro g c k m d b n p i j q;simp only[E.arOk,zA1,zA8]at g;obtain⟨f,rfl,h⟩:=r (t:=(43,0)) (l:=x.ts++(y.ts++z.ts)) n p q (by decide) (by decide) i j 3 Z (by omega);simp only[E.ts,zAh,zAi]at q j ⊢;rw[h,if_neg (by omega)];have v:=s g.1.1 f (k+1) (m+2) (d++[(43,0)]) (y.ts++z.ts++b) (by rw[n];simp[E.ts]) (by simp[p]) (by omega) (by simp at j ⊢;omega) (by omega);have w:=u g.1.2 (f - x.ts.length) (k+1+x.ts.length) (m+1) (d++((43,0)::x.ts)) (z.ts++b) (by rw[n];simp[E.ts]) (by simp[p];omega) (by omega) (by simp at j ⊢;omega) (by omega);have G:=D g.2 (f - x.ts.length - y.ts.length) (k+1+x.ts.length+y.ts.length) m (d++((43,0)::(x.ts++y.ts))) b (by rw[n];simp[E.ts]) (by simp[p];omega) (by omega) (by simp at j ⊢;omega) (by omega);rw[show m+3 - 1=m+2 by omega,v,if_neg (by omega),show m+2 - 1=m+1 by omega,w,if_neg (by omega),show m+1 - 1=m by omega,G,show k+1+x.ts.length+y.ts.length+z.ts.length=k+(x.ts.length+(y.ts.length+z.ts.length)+1) by omega,show f+1 - (x.ts.length+(y.ts.length+z.ts.length)+1)=f - x.ts.length - y.ts.length - z.ts.length by omega]
theorem afb (F:Nat) (e:E) (d:e.arOk=true) {T b a:eY} {k:Nat} (f:T=b++(e.ts++a)) (i:b.length=k) (j:T.length<=800) (h:e.ts.length<=F):ER F T (k:Int)=some (((k+e.ts.length:Nat):Int)):=by
 have g:1<=e.ts.length:=by cases e<;>simp[E.ts]
 have c:=congrArg List.length f;simp only[zAi]at c;unfold ER Dn;rw[if_neg (by omega)];simp only[zA8];rw[if_neg (by omega)];have:=aco F T (by omega) e d F k 1 b a f i (by omega) (by simp;omega) h;rw[if_pos Z]at this;exact this
def SQ (b:Bool):Int:=if b then 1 else 0
theorem xQ (f:Nat) (b:Bool):jN f b=some (SQ b):=by cases b<;>rfl
theorem wA {a:Type} [Inhabited a] {l:List a} {k:Nat} (h:k<l.length):l.take (k+1)=l.take k++[at' l (k:Int)]:=by
 rw[List.take_add_one,zA0 h,lZ,zA7,zA0 h];rfl
theorem gN {a:Type} [Inhabited a] {l:List a} {k:Nat} (h:k<l.length):at' l (k:Int)=l[k]:=by
 rw[lZ,zA7,zA0 h];rfl
theorem Of {p:Nat->Prop}:∀(n:Nat),p n->∃m,m<=n∧p m∧∀j,j<m->¬p j:=by
 intro n
 induction n using Nat.strongRecOn with
 | _ n ih =>
  intro h;by_cases d:∃m,m<n∧p m
  ·obtain⟨m,e,f⟩:=d;obtain⟨k,a,b,c⟩:=ih m e f;exact⟨k,by omega,b,c⟩
  ·exact⟨n,zAd n,h,λj g i=>d ⟨j,g,i⟩⟩
theorem Vt {g:Type} [DecidableEq g]:∀(c b:List g),c.Nodup->(∀x∈c,x∈b)->c.length<=b.length
 | [],b,_,_=>Nat.zero_le _
 |a::c,b,h,hs=>by
  have d:=hs a zAa;have h:=zBb.1 h;have:=Vt c (b.erase a) h.2 (λx f=>(List.mem_erase_of_ne (fun(e:x=a)=>h.1 (by rw[<-e];exact f))).2 (hs x (zAg _ f)));rw[List.length_erase_of_mem d]at this;have i:0<b.length:=List.length_pos_of_mem d;simp only[zAh];omega
def nz (x:Int):Bool:=decide (x≠0)
theorem YJ (f:Nat) (l:aX) (h:l.length<f) (e:l.length<=1000):sB f l=some ((l.countP nz:Nat):Int):=by
 unfold sB;have:=cR (step:=sY l) (K:=some ((l.countP nz:Nat):Int)) l.length (λk=>(((l.take k).countP nz:Nat),(k:Int))) (λk b c=>by
  have d:(l.take k).countP nz<=k:=zB0 List.countP_le_length (by simp;omega);unfold sY wT;dsimp only;rw[if_pos (by omega),cO (by omega),wA c,List.countP_append,dH (by omega),dH (by omega)];by_cases a:at' l (k:Int)=0
  ·rw[if_neg (by simpa using a)];simp[nz,a]
  ·rw[if_pos a];simp[nz,a]) (λb=>by
  unfold sY AY;dsimp only;rw[if_neg (by omega),List.take_length]) f h
 exact this
theorem Kd (f:Nat) (l:aX) (x:Int) (h:l.length<f) (t:l.length<=1000):tO f l x=some (decide (x∈l)):=by
 have q:∃i:Int,rI f l x=some i∧(0<=i↔x∈l):=by
  by_cases b:x∈l
  ·obtain⟨i,r,o⟩:=List.mem_iff_getElem.1 b;have a:∃i,i<l.length∧at' l (i:Int)=x∧∀j,j<i->at' l (j:Int)≠x:=by
    obtain⟨m,d,c,s⟩:=Of (p:=λi=>at' l (i:Int)=x) i (by rw[gN r,o]);exact⟨m,by omega,c,s⟩
   obtain⟨i,r,d,c⟩:=a;refine⟨i,?_,iff_of_true (by omega) b⟩
   unfold rI;exact cR (step:=kX l x) (K:=some (i:Int)) i (λk=>(k:Int)) (λk n g=>by
    unfold kX;rw[if_pos (by omega),cO (by omega),if_neg (λe=>c k g e.symm),dH (by omega)]) (λn=>by
    unfold kX;rw[if_pos (by omega),cO (by omega),if_pos d.symm]) f (by omega)
  ·refine⟨-1,?_,iff_of_false (by omega) b⟩
   unfold rI;exact cR (step:=kX l x) (K:=some (-1)) l.length (λk=>(k:Int)) (λk n g=>by
    unfold kX;rw[if_pos (by omega),cO (by omega),if_neg (λe=>b (by rw[e,gN g];exact zB7 g)),dH (by omega)]) (λn=>by
    unfold kX yJ;rw[if_neg (by omega)]) f h
 obtain⟨i,d,c⟩:=q;unfold tO;rw[aZ d];by_cases b:x∈l
 ·rw[zA6 b,zA6 (c.2 b)]
 ·rw[zA5 b,zA5 (λe=>b (c.1 e))]
def CC (l:aX):Int:=match l.findIdx? nz with
 |some i=>(i:Int)
 |none=> -1
theorem Di {l:aX} {i:Nat} (a:i<l.length) (b:at' l (i:Int)≠0) (c:∀j,j<i->at' l (j:Int)=0):CC l=i:=by
 have:l.findIdx? nz=some i:=by
  rw[List.findIdx?_eq_some_iff_getElem];refine⟨a,by rw[<-gN a];simpa [nz]using b,λj d=> ?_⟩
  have:=c j d;rw[gN (by omega)]at this;simp[nz,this]
 unfold CC;rw[this]
theorem Dh {l:aX} (h:∀j,j<l.length->at' l (j:Int)=0):CC l = -1:=by
 have:l.findIdx? nz=none:=by
  rw[List.findIdx?_eq_none_iff];intro x b;obtain⟨i,a,rfl⟩:=List.mem_iff_getElem.1 b;have:=h i a;rw[gN a]at this;simp[nz,this]
 unfold CC;rw[this]
theorem Zi (f:Nat) (l:aX) (h:l.length<f) (t:l.length<=1000):oQ f l (λq=>qE f q)=some (CC l):=by
 unfold oQ;by_cases a:∃i,i<l.length∧at' l (i:Int)≠0
 ·obtain⟨i,s,o⟩:=a;obtain⟨m,r,n,b⟩:=Of (p:=λi=>at' l (i:Int)≠0) i o;have b:∀j,j<m->at' l (j:Int)=0:=λj d=>zAy.1 (b j d);rw[Di (by omega) n b];exact cR (step:=gZ l _) (K:=some (m:Int)) m (λk=>(k:Int)) (λk c g=>by
   unfold gZ qE;rw[if_pos (by omega),cO (by omega),aZ Z,if_neg (by simp[b k g]),dH (by omega)]) (λc=>by
   unfold gZ qE;rw[if_pos (by omega),cO (by omega),aZ Z,if_pos (by simpa using n)]) f (by omega)
 ·have a:∀j,j<l.length->at' l (j:Int)=0:=λj d=>zAy.1 λe=>a ⟨j,d,e⟩;rw[Dh a];exact cR (step:=gZ l _) (K:=some (-1)) l.length (λk=>(k:Int)) (λk c g=>by
   unfold gZ qE;rw[if_pos (by omega),cO (by omega),aZ Z,if_neg (by simp[a k g]),dH (by omega)]) (λc=>by
   unfold gZ qU;rw[if_neg (by omega)]) f h
def afw (l:aX):Int:=l.foldl min 1073741824
theorem afx (f:Nat) (l:aX) (h:l.length<f) (c:l.length<=1000):bK (vG l) f ((1073741824:Int),(0:Int))=some (afw l):=by
 exact cR (step:=vG l) (K:=some (afw l)) l.length (λk=>((l.take k).foldl min 1073741824,(k:Int))) (λk a b=>by
  unfold vG;dsimp only;rw[if_pos (by omega),cO (by omega),wA b,List.foldl_append,dH (by omega)];rfl) (λa=>by
  unfold vG Cg;dsimp only;rw[if_neg (by omega),List.take_length];rfl) f h
def Rv (l:aX):Nat->Nat->Nat
 |0,k=>k
 |f+1,k=>if((k:Nat):Int)∈l then Rv l f (k+1)else k
def Nf (l:aX):Nat:=Rv l (l.length+1) 0
theorem Rx (l:aX):((Nf l:Nat):Int)∉l∧(∀j,j<Nf l->((j:Nat):Int)∈l)∧Nf l<=l.length:=by
 have key:∀(f k:Nat),(∀j,j<k->((j:Nat):Int)∈l)->(∀j,j<Rv l f k->((j:Nat):Int)∈l)∧(Rv l f k=k+f∨((Rv l f k:Nat):Int)∉l):=by
  intro f
  induction f with
  |zero=>intro k h;exact⟨h,.inl Z⟩
  | succ f ih =>
   intro k h;by_cases hk:((k:Nat):Int)∈l
   ·have:=ih (k+1) (λj hj=>by
     rcases zAm j k with q|q
     ·exact h j q
     ·rw[show j=k by omega];exact hk)
    simp only[Rv,if_pos hk];exact⟨this.1,this.2.imp (λe=>by omega) id⟩
   ·simp only[Rv,if_neg hk];exact⟨h,.inr hk⟩
 have hle:∀m,(∀j,j<m->((j:Nat):Int)∈l)->m<=l.length:=λm h=>by
  have:=Vt ((List.range m).map λj=>((j:Nat):Int)) l (by
   rw[List.nodup_iff_pairwise_ne,List.pairwise_map];exact(List.nodup_iff_pairwise_ne.1 List.nodup_range).imp (λh e=>h (by omega))) (λx hx=>by
   obtain⟨j,hj,rfl⟩:=zB5.1 hx;exact h j (zAn.1 hj))
  simpa using this
 obtain⟨h1,h2⟩:=key (l.length+1) 0 (λj hj=>by omega);have h3:=hle _ h1;refine⟨?_,h1,h3⟩
 rcases h2 with h2|h2
 ·have:Rv l (l.length+1) 0<=l.length:=h3;omega
 ·exact h2
theorem afv (f:Nat) (l:aX) (h:l.length+2<f) (hl:l.length<=900):CJ f l=some ((Nf l:Nat):Int):=by
 obtain⟨h1,h2,h3⟩:=Rx l;unfold CJ;exact cR (step:=BF f l) (K:=some ((Nf l:Nat):Int)) (Nf l) (λk=>(k:Int)) (λk ag hk=>by
  unfold BF;rw[aZ (Kd f l (k:Int) (by omega) (by omega)),if_pos (by simpa using h2 k hk),dH (by omega)]) (λag=>by
  unfold BF Dg;rw[aZ (Kd f l _ (by omega) (by omega)),if_neg (by simpa using h1)]) f (by omega)
def adm (l:aX):Int:=l.foldl (λa x=>wI .i64 (a+x)) 0
theorem afR (f:Nat) (l:aX) (h:l.length<f) (c:l.length<=1000):bK (vH f l) f ((0:Int),(0:Int))=EK f (adm l):=by
 refine(cR (step:=vH f l) l.length (λk=>(adm (l.take k),(k:Int))) (λk a b=> ?_) (λa=> ?_) f h).trans Z
 ·unfold vH;dsimp only;rw[if_pos (by omega),cO (by omega),dH (by omega),wA b];unfold adm;rw[List.foldl_append];rfl
 ·unfold vH;dsimp only;rw[if_neg (by omega),List.take_length]
def Kg (o:Int) (l:aX):Int:=
 if o=20 then SQ (l.all nz)else if o=21 then SQ (l.any nz)else if o=22 then((l.countP nz:Nat):Int)else if o=23 then CC l else if o=24 then afw l else if o=26 then max (-1073741824) (min (adm l) 1073741824)else((Nf l:Nat):Int)
theorem acy (f:Nat) (o:Int) (l:aX) (hf:40<=f) (hl:l.length<=24) (ho:o=20∨o=21∨o=22∨o=23∨o=24∨o=26∨o=27):Dj f o l=some (Kg o l):=by
 have hc:=YJ f l (by omega) (by omega);unfold Dj;rcases ho with rfl|rfl|rfl|rfl|rfl|rfl|rfl
 ·rw[if_pos Z,aZ hc,aZ (xQ f _),Kg,if_pos Z];have:(decide (((l.countP nz:Nat):Int)=(l.length:Int)))=l.all nz:=by
   rw[Bool.eq_iff_iff];simp[List.countP_eq_length,Int.ofNat_inj]
  rw[this]
 ·rw[if_neg (by decide),if_pos Z,aZ hc,aZ (xQ f _),Kg,if_neg (by decide),if_pos Z];have:(decide ((0:Int)<((l.countP nz:Nat):Int)))=l.any nz:=by
   rw[Bool.eq_iff_iff,zA8,List.any_eq_true,show((0:Int)<((l.countP nz:Nat):Int))↔0<l.countP nz by omega,List.countP_pos_iff]
  rw[this]
 ·rw[if_neg (by decide),if_neg (by decide),if_pos Z,aZ hc];rfl
 ·rw[if_neg (by decide),if_neg (by decide),if_neg (by decide),if_pos Z,aZ (Zi f l (by omega) (by omega))];rfl
 ·rw[if_neg (by decide),if_neg (by decide),if_neg (by decide),if_neg (by decide),if_pos Z,afx f l (by omega) (by omega)];rfl
 ·rw[if_neg (by decide),if_neg (by decide),if_neg (by decide),if_neg (by decide),if_neg (by decide),if_neg (by decide),if_pos Z,afR f l (by omega) (by omega)];rfl
 ·rw[if_neg (by decide),if_neg (by decide),if_neg (by decide),if_neg (by decide),if_neg (by decide),if_neg (by decide),if_neg (by decide),if_pos Z,aZ (afv f l (by omega) (by omega))];rfl
end Go.Proofs.YtahgemjmgopleaaGreatDoor
namespace Go.Proofs.YtahgemjmgopleaaGreatDoor
open Go.Sx
def yK  (a:bO):Option bO:=
 some (a)
def BZ (a:bO×Int) (c:Gp->Option bO) (b:aX):Option bO:=
 ck ((a.1.length:Int)+(List.length ([b]):Int)<=1099511627) (c ((a.1++[b]),(wI .i64 (a.2+(1:Int)))))
def pR (U:Nat) (g:Je) (h:aX) (e:bO×Int) (a:aX×Int) (c:(aX×Int)->Option bO) (b:eL):Option bO:=
 Option.bind (uM U h (wI .i64 ((wI .i64 (e.2*(g.length:Int)))+a.2))) λf=>(Option.bind (gT U f (wI .i64 ((wI .i64 (b.2 - b.1))+(1:Int)))) λd=>(ck ((a.1.length:Int)+(List.length ([(wI .i64 (b.1+d))]):Int)<=1099511627) (c ((a.1++([(wI .i64 (b.1+d))])),(wI .i64 (a.2+(1:Int)))))))
def pS (U:Nat) (f:cW) (c:Je) (g:aX) (h:Int) (b:bO×Int) (e:Gp->Option bO) (a:aX×Int) (d:(aX×Int)->Option bO):Option bO:=
 if a.2<(c.length:Int)then(ck (0<=a.2∧a.2<(c.length:Int)) (ck (0<=a.2∧a.2<(c.length:Int)) (ck (0<=a.2∧a.2<(c.length:Int)) (ck (0<=a.2∧a.2<(c.length:Int)) (ck (0<=a.2∧a.2<(c.length:Int)) (if((at' c a.2).2.1)=(2:Int)then(pR U c g b a d ((0:Int),(1:Int)))else(if((at' c a.2).2.1)=(3:Int)then(ck (0<=b.2∧b.2<(f.2.length:Int)) (pR U c g b a d ((-1:Int),(wI .i64 (((at' f.2 b.2).length:Int) - (1:Int))))))else(pR U c g b a d (((at' c a.2).2.2.1),(wI .i64 ((wI .i64 (((at' c a.2).2.2.2.1)+(wI .i64 (((at' c a.2).2.2.2.2.1)*(f.2.length:Int)))))+(wI .i64 (((at' c a.2).2.2.2.2.2)*h)))))))))))))else(BZ b e (a.1))
def kZ (U:Nat) (c:cW) (e:Je) (f:aX) (d:Int) (a:bO×Int) (b:Gp->Option bO):Option bO:=
 if a.2<(c.2.length:Int)then(bK (pS U c e f d a b) U (([]:aX),(0:Int)))else(yK  (a.1))
def sV (U:Nat) (b:cW) (c:Je) (d:aX) (a:Int):Option bO:=
 bK (kZ U b c d a) U (([]:bO),(0:Int))
def yL (U:Nat) (c:cW) (d:Je) (e:aX) (a:eL) (b:gC->Option bO):Option bO:=
 if a.2<(c.2.length:Int)then(ck (0<=a.2∧a.2<(c.1.length:Int)) (b ((max a.1 (at' c.1 a.2)),(wI .i64 (a.2+(1:Int))))))else(sV U c d e (a.1))
def mL (U:Nat) (a:cW) (b:Je) (c:aX):Option bO:=
 bK (yL U a b c) U ((0:Int),(0:Int))
theorem aei:aV Tryz.prog 11:=Tryz.call11
theorem MK (U:Nat) {g:cW} {n:Je} {s:aX} (v:Value)  (w:Value)  (z2:iX)  (F:Value)  (y:Value) (r:bO) (h:mL U g n s=some r):
  aW Tryz.prog 11 #[Value.agg #[v,w],F,y] [Sl bX v g.1,S2 bD w z2 g.2,Sl aP F n,Sl bX y s] (λx:Fu=>x.1) (λx l=>Ar fE.raw x.1 x.2::k_ cS x.2 r::l) (λ_ l=>l):=by
 refine aW.of Tryz.func11 Z Tryz.ntmps11 Z λc=>?_;unfold mL at h;refine aR<|aH (aN.box (cs:=[v,w]) Z Z) Z λp=>aB Z<|aL<|aR<|bN Z<|dL 0 Z<|aC (gM Z (aD.fact 1 Z) Z) Z<|aB Z<|aB Z<|aL<|aK<|dK (λk=>sV U g n s k=some r) (λk b4=>[(1,F),(2,y),(3,vP p),(7,vI (g.2.length:Int)),(8,vI (k))]) (λk b4=>[cJ p [v,w] 29]) ?_ ?_
 ·refine aR<|aB Z<|aL<|aS<|eB (yL U g n s) (λi J=>[(1,F),(2,y),(3,vP p),(7,vI (g.2.length:Int)),(8,vI (i.1)),(9,vI (i.2))]) (λi J=>[cJ p [v,w] 29]) ((0:Int),(0:Int)) () h SF (bA.refl _) ?_;intro ac i J h;refine aK<|aR<|aA Z<|aA Z<|cZ Z<|aL ?_;refine d_ h Z (λh=>?_) λh=>?_
  ·refine cE<|aK<|aS<|aO<|aA Z<|bN Z<|dL 0 Z<|aA Z<|dW h λQ h=>aC (a_ Z Z (aD.fact 0 Z) Z Z Q) Z<|aC (bY Z (aD.fact 0 Z) Z Z Z eH Q) Z<|aC (DZ Z Z) Z<|aB Z<|eN<|jH<|aO<|aA Z<|cD Z<|aB Z<|aL ?_;exact tV ((max i.1 (at' g.1 i.2)),(wI .i64 (i.2+(1:Int)))) () h SF Z
  refine eS ?_;exact eW (i.1) () h SF Z
 intro k b4 h;unfold sV at h;refine aR<|aB Z<|aL<|aK<|CM (B:=Fu) (λH=>yK  H=some r) (λH A=>[(10,A.1)]) (λH A=>[Ar fE.raw A.1 A.2,k_ cS A.2 H]) ?_ ?_
 ·refine aR<|aB Z<|aL<|aS<|gF (cK fE.raw) (gF (mD cS) ?_);refine eB (B:=Fu) (kZ U g n s k) (λb a=>[(1,F),(2,y),(3,vP p),(7,vI (g.2.length:Int)),(8,vI (k)),(10,a.1),(11,vI (b.2))]) (λb a=>[cJ p [v,w] 29,Ar fE.raw a.1 a.2,k_ cS a.2 b.1]) (([]:bO),(0:Int)) ((lL),([]:gV)) h SF (bA.ix [2,1,0] Z Z) ?_;intro G b a h;refine aK<|aR<|aA Z<|aA Z<|cZ Z<|aL ?_;refine d_ h Z (λh=>?_) λh=>?_
  ·refine cE<|aK<|aS<|aR<|aB Z<|aL<|aK<|CM (B:=Value) (λo=>BZ b (bK (kZ U g n s k) G) o=some r) (λo j=>[(1,F),(2,y),(3,vP p),(7,vI (g.2.length:Int)),(8,vI (k)),(10,a.1),(11,vI (b.2)),(12,j)]) (λo j=>[cJ p [v,w] 29,Ar fE.raw a.1 a.2,k_ cS a.2 b.1,Ar cS j o]) ?_ ?_
   ·refine aR<|aB Z<|aL<|aS<|gF (cK cS)<|eB (B:=Value) (pS U g n s k b (bK (kZ U g n s k) G)) (λd m=>[(1,F),(2,y),(3,vP p),(7,vI (g.2.length:Int)),(8,vI (k)),(10,a.1),(11,vI (b.2)),(12,m),(13,vI (d.2))]) (λd m=>[cJ p [v,w] 29,Ar fE.raw a.1 a.2,k_ cS a.2 b.1,Ar cS m d.1]) (([]:aX),(0:Int)) (lL) h SF (bA.ix [1,2,3,0] Z Z) ?_;intro S d m h;refine aK<|aR<|aA Z<|aA Z<|iF (aD.fact 2 Z) Z<|cZ Z<|aL ?_;refine d_ h Z (λh=>?_) λh=>?_
    ·refine cE<|aK<|aS<|aK ?_;refine JR.start [0,0,3,7,15,0,0,96,224,480,0,0,3072,7168,15360,0,64512,131040,0,0,786432,1835008,3932160,0,16515072,33554400,31,134217727] 27 mixedOrders (by decide +kernel) ?_;refine zBj (by exact rfl) ?_;refine aY Z<|aY Z<|dW h λL h=>bM Z .nil (kH 2 Z) (a_ Z Z (aD.fact 0 Z) Z Z L) aU.z<|iY Z (dX Z Z Z Z Z)<|bM Z .nil (kH 2 Z) (e_ Z (aD.fact 0 Z) Z Z Z AA L) aU.z<|aY Z<|aY Z<|dW h λM h=>bM Z .nil (kH 2 Z) (a_ Z Z (aD.fact 0 Z) Z Z M) aU.z<|iY Z (dX Z Z Z Z Z)<|bM Z .nil (kH 2 Z) (e_ Z (aD.fact 0 Z) Z Z Z AB M) aU.z<|aY Z<|aY Z<|dW h λN h=>bM Z .nil (kH 2 Z) (a_ Z Z (aD.fact 0 Z) Z Z N) aU.z<|iY Z (dX Z Z Z Z Z)<|bM Z .nil (kH 2 Z) (e_ Z (aD.fact 0 Z) Z Z Z AC N) aU.z<|aY Z<|iY Z (zH Z Z)<|iY Z (yR Z Z)<|aY Z<|aY Z<|dW h λO h=>bM Z .nil (kH 2 Z) (a_ Z Z (aD.fact 0 Z) Z Z O) aU.z<|iY Z (dX Z Z Z Z Z)<|bM Z .nil (kH 2 Z) (e_ Z (aD.fact 0 Z) Z Z Z AD O) aU.z<|aY Z<|iY Z (zH Z Z)<|iY Z (yR Z Z)<|iY Z (wS Z)<|bP 27 Z Z<|aB Z<|aL<|aK<|dK (λf=>pR U n s b d (bK (pS U g n s k b (bK (kZ U g n s k) G)) S) f=some r) (λf I=>[(1,F),(2,y),(3,vP p),(7,vI (g.2.length:Int)),(8,vI (k)),(10,a.1),(11,vI (b.2)),(12,m),(13,vI (d.2)),(14,vI (f.1)),(15,vI (f.2))]) (λf I=>[cJ p [v,w] 29,Ar fE.raw a.1 a.2,k_ cS a.2 b.1,Ar cS m d.1]) ?_ ?_
     ·refine aR<|aA Z<|aA Z<|dW h λP h=>aC (a_ Z Z (aD.fact 2 Z) Z Z P) Z<|aC (dX Z Z Z Z Z) Z<|aC (e_ Z (aD.fact 2 Z) Z Z Z lC P) Z<|aL<|aS<|aR<|bS Z<|aB Z<|aL ?_;refine d_ h Z (λh=>?_) λh=>?_
      ·refine aO<|aB Z<|aB Z<|eN<|jH ?_;exact eW ((0:Int),(1:Int)) () h SF Z
      refine aR<|bS Z<|aB Z<|aL ?_;refine d_ h Z (λh=>?_) λh=>?_
      ·refine JR.start [0,1,0,7,15,31,63,0,255] 8 mixedOrders (by decide +kernel) ?_;refine zBj (by exact rfl) ?_;refine cB Z<|fD 0 Z<|aY Z<|dW h λu h=>bM Z .nil (kH 1 Z) (cY Z Z (aD.fact 0 Z) Z Z u) aU.z<|bM Z .nil (kH 1 Z) (cL Z (aD.fact 0 Z) Z Z u) aU.z<|bM Z .nil (kH 1 Z) (fX Z (zBi (aD.fact 0 Z) u.1 u.2) Z) aU.z<|iY Z (lO Z Z)<|iY Z (wS Z)<|bP 8 Z Z<|aB Z<|eN<|jH ?_;exact eW ((-1:Int),(wI .i64 (((at' g.2 b.2).length:Int) - (1:Int)))) () h SF Z
      refine dM<|jH ?_;exact eW (((at' n d.2).2.2.1),(wI .i64 ((wI .i64 (((at' n d.2).2.2.2.1)+(wI .i64 (((at' n d.2).2.2.2.2.1)*(g.2.length:Int)))))+(wI .i64 (((at' n d.2).2.2.2.2.2)*k))))) () h SF Z
     intro f I h;refine aO<|aA Z<|aA Z<|aA Z<|aA Z<|aA Z<|iF (aD.fact 2 Z) Z<|aC (zH Z Z) Z<|aA Z<|cD Z<|dZ h λW aa h=>aH (zBg Lt (CZ U y W aa) Z (jP [3] Z)) Z λaf=>aA Z<|aA Z<|aC (lO Z Z) Z<|cD Z<|dZ h λt ab h=>aH (zBg EG (kN U  t ab) Z .nil) Z λag=>cD Z<|aH (bT (e:=cS) ([(wI .i64 (f.1+t))]) [(0,vI (wI .i64 (f.1+t)))] Z Z Z Z (eV (vI (wI .i64 (f.1+t))) Z) Z Z Z) Z λae=>dW h λR h=>aH (bH 4 dD Z Z Z (aT (aD.res 0 Z) dD) Z Z Z Z R Z) Z λY=>aB Z<|eN<|jH<|aO<|aA Z<|cD Z<|aB Z<|aL ?_;exact nC ((d.1++([(wI .i64 (f.1+t))])),(wI .i64 (d.2+(1:Int)))) (Y) h SF (bA.ix [1,2,3,4] Z Z) (aG.refl _ _)
    refine eS ?_;exact eW (d.1) (m) h SF Z
   intro o j h;refine aO<|aA Z<|aA Z<|gF (mD cS)<|bE (Know.one ((aT (aD.res 4 Z) dD))) λE=>gF (Lm 0 4 Z Z Z) ?_;refine aH (bT (e:=fE.raw) [j] [(0,j)] Z Z Z Z (eV (j) E) Z Z (by simp[cellsOf,fE.raw,E])) Z λad=>?_;refine bE (eT 4 Z) λC=>bE (eT 1 Z) λD=>dW h λK h=>gF (Kb 4 1 Z Z Z) ?_;refine aH (aN.append 2 0 Z Z Z Z Z Z Z (by have q:=K;have T:=C;have V:=D;(try simp only[zAh,List.length_nil]at q T V ⊢);omega) (by have q:=K;have T:=C;have V:=D;(try simp only[zAh,List.length_nil]at q T V ⊢);omega) Z) Z λX=>?_;refine aB Z<|eN<|jH<|aO<|aA Z<|cD Z<|aB Z<|aL ?_;exact nC ((b.1++[o]),(wI .i64 (b.2+(1:Int)))) (X,(a.2++[j])) h SF (bA.ix [1,2,3] Z Z) (aG.refl _ _)
  refine eS ?_;exact bU (b.1) (a.1,a.2) h SF (bA.ix [1,2] Z Z) (aG.refl _ _)
 intro H A h;unfold yK at h;refine aR<|aA Z<|aB Z<|aL<|aQ ?_;cases h;exact gE (A.1,A.2) Z Z (RV.tmp Z) (bA.refl _) aG.nil
def xW  (a:aX):Option aX:=
 some (a)
def sL (c:Int×aX×aX) (b:(Int×aX×aX)->Option aX) (a:aX×aX):Option aX:=
 b ((wI .i64 (c.1+(1:Int))),a.1,a.2)
def sM (c:cW) (b:aX×aX) (e:(aX×aX)->Option aX) (a:Int×aX×aX) (d:(Int×aX×aX)->Option aX):Option aX:=
 if a.1<((at' c.2 (at' b.1 (0:Int))).length:Int)then(ck (0<=a.1∧a.1<((at' c.2 (at' b.1 (0:Int))).length:Int)) (ck (0<=((at' (at' c.2 (at' b.1 (0:Int))) a.1).1)∧((at' (at' c.2 (at' b.1 (0:Int))) a.1).1)<(a.2.2.length:Int)) (if(at' a.2.2 ((at' (at' c.2 (at' b.1 (0:Int))) a.1).1))<(0:Int)then(ck (0<=(at' b.1 (0:Int))∧(at' b.1 (0:Int))<(a.2.2.length:Int)) (ck (0<=((at' (at' c.2 (at' b.1 (0:Int))) a.1).1)∧((at' (at' c.2 (at' b.1 (0:Int))) a.1).1)<(a.2.2.length:Int)) (ck ((a.2.1.length:Int)+(List.length ([((at' (at' c.2 (at' b.1 (0:Int))) a.1).1)]):Int)<=1099511627) (sL a d ((a.2.1++([((at' (at' c.2 (at' b.1 (0:Int))) a.1).1)])),(List.set a.2.2 (Int.toNat ((at' (at' c.2 (at' b.1 (0:Int))) a.1).1)) (wI .i64 ((at' a.2.2 (at' b.1 (0:Int)))+(1:Int)))))))))else(sL a d (a.2.1,a.2.2)))))else(e (a.2.1,a.2.2))
def pK (U:Nat) (c:cW) (a:aX×aX) (b:(aX×aX)->Option aX):Option aX:=
 if(0:Int)<(a.1.length:Int)then(ck (0<=(0:Int)∧(0:Int)<(a.1.length:Int)) (ck (0<=(1:Int)∧(1:Int)<=(a.1.length:Int)) (ck (0<=(at' a.1 (0:Int))∧(at' a.1 (0:Int))<(c.2.length:Int)) (bK (sM c a b) U ((0:Int),(List.drop (Int.toNat (1:Int)) a.1),a.2)))))else(xW  (a.2))
def BS (U:Nat) (c:cW) (a:Int) (b:aX):Option aX:=
 ck (0<=a∧a<(b.length:Int)) (bK (pK U c) U (([a]),(List.set b (Int.toNat a) (0:Int))))
def BU (U:Nat) (c:cW) (d:Int) (a:qA) (b:wF->Option aX):Option aX:=
 if a.1<((List.replicate (Int.toNat (List.length c.2:Int)) (0:Int)).length:Int)then(ck (0<=a.1∧a.1<(a.2.length:Int)) (b ((wI .i64 (a.1+(1:Int))),(List.set a.2 (Int.toNat a.1) (-1:Int)))))else(BS U c d (a.2))
def zS (U:Nat) (a:cW) (b:Int):Option aX:=
 ck (0<=(a.2.length:Int)∧(a.2.length:Int)<=1099511627) (bK (BU U a b) U ((0:Int),(List.replicate (Int.toNat (a.2.length:Int)) (0:Int))))
theorem abq:aV Tryz.prog 117:=Tryz.call117
theorem Mw (U:Nat) {d:cW} {o:Int} (s:Value)  (t:Value)  (M:iX) (r:aX) (h:zS U d o=some r):
  aW Tryz.prog 117 #[Value.agg #[s,t],vI (o)] [Sl bX s d.1,S2 bD t M d.2] (λx:Value=>x) (λx l=>Ar cS x r::l) (λ_ l=>l):=by
 refine aW.of Tryz.func117 Z Tryz.ntmps117 Z λc=>?_;refine aR<|aH (aN.box (cs:=[s,t]) Z Z) Z λp=>aB Z<|aL<|aR<|bN Z<|dL 0 Z<|aC (gM Z (aD.fact 1 Z) Z) Z<|dW h λQ h=>aH (r_ (e:=cS) (0:Int) Z Z Z Z Q Z Z Z) Z λk=>aB Z<|aL<|aK<|dK (λu=>BS U d o u=some r) (λu N=>[(1,vI (o)),(2,vP p),(5,k)]) (λu N=>[Ar cS k u,cJ p [s,t] 29]) ?_ ?_
 ·refine aR<|aA Z<|aC (fX Z (aT (aD.res 0 Z) dD) Z) Z<|aA Z<|aL<|aS<|eB (BU U d o) (λg w=>[(1,vI (o)),(2,vP p),(5,k),(16,vI ((List.replicate (Int.toNat (List.length d.2:Int)) (0:Int)).length:Int)),(17,vI (g.1))]) (λg w=>[Ar cS k g.2,cJ p [s,t] 29]) ((0:Int),(List.replicate (Int.toNat (d.2.length:Int)) (0:Int))) () h SF (bA.refl _) ?_;intro R g w h;refine aR<|cZ Z<|aL<|aK ?_;refine d_ h Z (λh=>?_) λh=>?_
  ·refine cE<|aK<|aS<|aR<|aA Z<|aB Z<|aL<|aO<|aA Z<|aA Z<|dW h λF h=>aC (a_ Z Z (aT (aD.res 0 Z) dD) Z Z F) Z<|zF 0 (-1:Int) F Z Z Z Z Z Z Z<|eN<|jH<|aO<|cD Z<|aA Z<|aL ?_;exact tV ((wI .i64 (g.1+(1:Int))),(List.set g.2 (Int.toNat g.1) (-1:Int))) () h SF Z
  refine eS ?_;exact eW (g.2) () h SF Z
 intro u N h;refine aR<|aA Z<|aA Z<|dW h λO h=>aC (a_ Z Z (aT (aD.res 0 Z) dD) Z Z O) Z<|zF 0 (0:Int) O Z Z Z Z Z Z Z<|aL<|aR<|aA Z<|aH (bT (e:=cS) ([o]) [(0,vI (o))] Z Z Z Z (eV (vI (o)) Z) Z Z Z) Z λT=>aB Z<|aL<|aK<|dK (λm=>xW  m=some r) (λm v=>[(5,k)]) (λm v=>[Ar cS k m]) ?_ ?_
 ·refine aS<|eB (B:=Value) (pK U d) (λa q=>[(2,vP p),(5,k),(7,q)]) (λa q=>[Ar cS q a.1,Ar cS k a.2,cJ p [s,t] 29]) (([o]),(List.set u (Int.toNat o) (0:Int))) (T) h SF (bA.refl _) ?_;intro G a q h;refine aK<|aR<|aA Z<|aC (fX Z (aT (aD.res 0 Z) dD) Z) Z<|aC (uE Z Z) Z<|aL ?_;refine d_ h Z (λh=>?_) λh=>?_
  ·refine cE<|aS<|aR<|aA Z<|dW h λy h=>aC (a_ Z Z (aT (aD.res 0 Z) dD) Z Z y) Z<|aC (bY Z (aT (aD.res 0 Z) dD) Z Z Z eH y) Z<|aB Z<|aL<|aR<|aA Z<|dW h λH h=>aH (QC 0 H Z Z Z Z Z Z) Z λK=>aB Z<|aL<|aR<|bN Z<|dL 2 Z<|aA Z<|dW h λi h=>aC (cY Z Z (aD.fact 1 Z) Z Z i) Z<|aC (cL Z (aD.fact 1 Z) Z Z i) Z<|aC (fX Z (zBi (aD.fact 1 Z) i.1 i.2) Z) Z<|aA Z<|aL<|aS<|eB (B:=Value) (sM d a (bK (pK U d) G)) (λb j=>[(2,vP p),(5,k),(7,j),(8,vI (at' a.1 (0:Int))),(41,(at' M (at' a.1 (0:Int))).1),(42,vI ((at' d.2 (at' a.1 (0:Int))).length:Int)),(43,vI (b.1))]) (λb j=>[Ar cS j b.2.1,Ar cS k b.2.2,cJ p [s,t] 29]) ((0:Int),(List.drop (Int.toNat (1:Int)) a.1),a.2) (K) h SF (bA.refl _) ?_;intro J b j h;refine aR<|cZ Z<|aL<|aK ?_;refine d_ h Z (λh=>?_) λh=>?_
   ·refine cE<|aK<|CM (B:=Value) (λf=>sL b (bK (sM d a (bK (pK U d) G)) J) f=some r) (λf n=>[(2,vP p),(5,k),(7,n),(8,vI (at' a.1 (0:Int))),(41,(at' M (at' a.1 (0:Int))).1),(42,vI ((at' d.2 (at' a.1 (0:Int))).length:Int)),(43,vI (b.1))]) (λf n=>[Ar cS n f.1,Ar cS k f.2,cJ p [s,t] 29]) ?_ ?_
    ·refine aS<|aR<|dW h λA h=>aC (a_ Z Z (zBi (aD.fact 1 Z) i.1 i.2) Z Z A) Z<|aC (jT (cs:=[vI ((at' (at' d.2 (at' a.1 (0:Int))) b.1).1),vI ((at' (at' d.2 (at' a.1 (0:Int))) b.1).2)]) Z (zBi (aD.fact 1 Z) i.1 i.2) cG Z Z Z Z A) Z<|aH (aN.alloc (cs:=XA) Z Z) Z λP=>bF 0 (vs:=[vI ((at' (at' d.2 (at' a.1 (0:Int))) b.1).1),vI ((at' (at' d.2 (at' a.1 (0:Int))) b.1).2)]) Z Z Z Z Z Z<|aL<|aR<|aA Z<|bN Z<|dL 0 Z<|dW h λC h=>aC (a_ Z Z (aT (aD.res 2 Z) dD) Z Z C) Z<|aC (bY Z (aT (aD.res 2 Z) dD) Z Z Z eH C) Z<|cZ Z<|aL ?_;refine d_ h Z (λh=>?_) λh=>?_
     ·refine aK ?_;refine JR.start [0,0,2,0,0,24,56,120,255,511] 8 mixedOrders (by decide +kernel) ?_;refine zBj (by exact rfl) ?_;refine aY Z<|cB Z<|fD 0 Z<|aY Z<|aY Z<|dW h λD h=>bM Z (bA.cons 2 Z .nil) .nil (a_ Z Z (aT (aD.res 0 Z) dD) Z Z D) aU.z<|bM Z (bA.cons 2 Z .nil) .nil (bY Z (aT (aD.res 0 Z) dD) Z Z Z eH D) aU.z<|iY Z (yR Z Z)<|bP 8 Z Z<|dW h λE h=>aC (a_ Z Z (aT (aD.res 2 Z) dD) Z Z E) Z<|zF 2 (wI .i64 ((at' b.2.2 (at' a.1 (0:Int)))+(1:Int))) E Z Z Z Z Z Z Z<|aL<|aO<|aA Z<|bN Z<|dL 0 Z<|aH (bT (e:=cS) ([((at' (at' d.2 (at' a.1 (0:Int))) b.1).1)]) [(0,vI ((at' (at' d.2 (at' a.1 (0:Int))) b.1).1))] Z Z Z Z (eV (vI ((at' (at' d.2 (at' a.1 (0:Int))) b.1).1)) Z) Z Z Z) Z λS=>dW h λI h=>aH (bH 2 dD Z Z Z (aT (aD.res 0 Z) dD) Z Z Z Z I Z) Z λL=>aB Z<|eN<|jH ?_;exact bU ((b.2.1++([((at' (at' d.2 (at' a.1 (0:Int))) b.1).1)])),(List.set b.2.2 (Int.toNat ((at' (at' d.2 (at' a.1 (0:Int))) b.1).1)) (wI .i64 ((at' b.2.2 (at' a.1 (0:Int)))+(1:Int))))) (L) h SF (bA.ix [2,3,4] Z Z) (aG.refl _ _)
     refine dM<|jH ?_;exact bU (b.2.1,b.2.2) (j) h SF (bA.ix [1,2,3] Z Z) (aG.refl _ _)
    intro f n h;unfold sL at h;refine aO<|cD Z<|aA Z<|aL ?_;exact tV ((wI .i64 (b.1+(1:Int))),f.1,f.2) (n) h SF Z
   refine qC<|eZ<|eZ<|wQ<|jH ?_;exact tV (b.2.1,b.2.2) (j) h SF Z
  refine eS ?_;exact bU (a.2) () h SF (bA.ix [1] Z Z) (aG.refl _ _)
 intro m v h;unfold xW at h;refine aR<|aA Z<|aB Z<|aL<|aQ ?_;cases h;exact gE (k) Z Z (RV.tmp Z) (bA.refl _) aG.nil
def BI  (a:Bool):Option Bool:=
 some (a)
def qG (U:Nat) (a:Int) (b:Int) (c:Int):Option Bool:=
 if b<=a then(BI  (decide (a<=c)))else(BI  (false))
theorem HM:aV Tryz.prog 78:=Tryz.call78
theorem yT (U:Nat) {b:Int} {f:Int} {d:Int} (r:Bool) (h:qG U b f d=some r):
  aW Tryz.prog 78 #[vI (b),vI (f),vI (d)] [] (λx:Unit=>vB (r)) (λx l=>l) (λ_ l=>l):=by
 refine aW.of Tryz.func78 Z Tryz.ntmps78 Z λc=>?_;refine aR<|aB Z<|aL<|aK<|dK (λa=>BI  a=some r) (λa e=>[(6,vB (a))]) (λa e=>[]) ?_ ?_
 ·refine aO<|aA Z<|aA Z<|aC (wC Z Z) Z<|aA Z ?_;refine wN h Z (λ_ h=>?_) λ_ h=>?_
  ·refine bZ Z<|bZ Z<|aM Z (uF Z Z) Z<|dA Z<|aB Z<|aL ?_;exact eW (decide (b<=d)) () h SF Z
  refine aE Z<|aE Z<|aE Z<|c_ Z<|aB Z<|aL ?_;exact eW (false) () h SF Z
 intro a e h;unfold BI at h;refine aQ ?_;cases h;exact fW Z
end Go.Proofs.YtahgemjmgopleaaGreatDoor