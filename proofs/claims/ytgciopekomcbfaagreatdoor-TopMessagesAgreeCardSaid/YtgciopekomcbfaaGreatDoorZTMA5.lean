/- Models and proofs. Conditions: none. -/
import Derived.Test.YtgciopekomcbfaaGreatDoorZTMA4
import Derived.Test.YtgciopekomcbfaaGreatDoorZTMA2
set_option linter.unusedVariables false
set_option linter.unusedSimpArgs false
set_option maxHeartbeats 4000000
set_option maxRecDepth 20000
open Go.Proofs.Tryz
namespace Go.Gx
open Go Go.Sx
noncomputable section
section
variable {α R:Type}
def a0 (a:V6 α) (k:V1 R):V1 R:=List.casesOn (motive:=λ_=>V1 R) a k (λ_ _=>none)
def a1 (b:V6 α) (k:α->V1 R):V1 R:=List.casesOn (motive:=λ_=>V1 R) b none λa r=>a0 r (k a)
def a2 (b:V6 α) (k:α->α->V1 R):V1 R:=List.casesOn (motive:=λ_=>V1 R) b none λa r=>a1 r (k a)
def a3 (b:V6 α) (k:α->α->α->V1 R):V1 R:=List.casesOn (motive:=λ_=>V1 R) b none λa r=>a2 r (k a)
def a4 (b:V6 α) (k:α->α->α->α->V1 R):V1 R:=List.casesOn (motive:=λ_=>V1 R) b none λa r=>a3 r (k a)
def a5 (us:V6 α) (k:α->α->α->α->α->V1 R):V1 R:=List.casesOn (motive:=λ_=>V1 R) us none λa r=>a4 r (k a)
def a6 (b:V6 α) (k:α->α->α->α->α->α->V1 R):V1 R:=List.casesOn (motive:=λ_=>V1 R) b none λa r=>a5 r (k a)
theorem adC {a:V6 α} {k:V1 R} {r:R} (h:a0 a k=some r):a=[]/\k=some r:=by
 cases a with
 |nil=>exact⟨rfl,h⟩
 |cons _ _=>cases h
theorem V_ {a:V6 α} {k:α->V1 R} {r:R} (h:a1 a k=some r):∃x,a=[x]/\k x=some r:=by
 cases a with
 |nil=>cases h
 |cons x a=>obtain⟨rfl,h⟩:=adC h;exact⟨x,rfl,h⟩
theorem Wa {a:V6 α} {k:α->α->V1 R} {r:R} (h:a2 a k=some r):∃x y,a=[x,y]/\k x y=some r:=by
 cases a with
 |nil=>cases h
 |cons x a=>obtain⟨y,rfl,h⟩:=V_ h;exact⟨x,y,rfl,h⟩
theorem adD {a:V6 α} {k:α->α->α->V1 R} {r:R} (h:a3 a k=some r):∃x y z,a=[x,y,z]/\k x y z=some r:=by
 cases a with
 |nil=>cases h
 |cons x a=>obtain⟨y,z,rfl,h⟩:=Wa h;exact⟨x,y,z,rfl,h⟩
theorem Pv {a:V6 α} {k:α->α->α->α->V1 R} {r:R} (h:a4 a k=some r):∃x y z u,a=[x,y,z,u]/\k x y z u=some r:=by
 cases a with
 |nil=>cases h
 |cons x a=>obtain⟨y,z,u,rfl,h⟩:=adD h;exact⟨x,y,z,u,rfl,h⟩
theorem adE {a:V6 α} {k:α->α->α->α->α->V1 R} {r:R} (h:a5 a k=some r):∃x y z u v,a=[x,y,z,u,v]/\k x y z u v=some r:=by
 cases a with
 |nil=>cases h
 |cons x a=>obtain⟨y,z,u,v,rfl,h⟩:=Pv h;exact⟨x,y,z,u,v,rfl,h⟩
theorem adF {a:V6 α} {k:α->α->α->α->α->α->V1 R} {r:R} (h:a6 a k=some r):∃x y z u v w,a=[x,y,z,u,v,w]/\k x y z u v w=some r:=by
 cases a with
 |nil=>cases h
 |cons x a=>obtain⟨y,z,u,v,w,rfl,h⟩:=adE h;exact⟨x,y,z,u,v,w,rfl,h⟩
end
def dSc (k:IntKind) (v:GV):V1 Int:=ob v.asI λp=>bif eqK p.1 k then some p.2 else none
def aaD (H:GH) (v:GV):V1 (V6 Int):=NA H 1 (dI .u32) v
def ajp (H:GH) (v:GV):V1 (Int×V6 Int×V6 Int×V6 Int×V4×V4):=ob v.asA λg=>a6 g λa b c d e f=>ob (dSc .i64 a) λn=>ob (Of H b) λx=>ob (Of H c) λy=>ob (Of H d) λz=>ob e.asB λp=>ob f.asB λq=>some (n,x,y,z,p,q)
def gI (n:Int):V6 GV:=[.int .i64 n]
def gP (p:Int×Int):V6 GV:=[.int .i64 p.1,.int .i64 p.2]
def fcI {R:Type} (l:V6 Int):(V6 Int->R)->R:=List.rec (motive:=λ_=>(V6 Int->R)->R) (λk=>k []) (λx _ a k=>fi x λx=>a λr=>k (x::r)) l
def fcP {R:Type} (l:V6 (Int×Int)):(V6 (Int×Int)->R)->R:=List.rec (motive:=λ_=>(V6 (Int×Int)->R)->R) (λk=>k []) (λx _ c k=>fi x.1 λa=>fi x.2 λb=>c λr=>k ((a,b)::r)) l
def fcR {R:Type} (l:V6 (V6 (Int×Int))):(V6 (V6 (Int×Int))->R)->R:=List.rec (motive:=λ_=>(V6 (V6 (Int×Int))->R)->R) (λk=>k []) (λx _ a k=>fcP x λx=>a λr=>k (x::r)) l
theorem aaO {R:Type}:∀(l:V6 Int) (k:V6 Int->R),fcI l k=k l
 | [],k=>rfl
 |x::l,k=>by
  show fi x (λx=>fcI l λr=>k (x::r))=_;rw[Oo,aaO l]
theorem aaP {R:Type}:∀(l:V6 (Int×Int)) (k:V6 (Int×Int)->R),fcP l k=k l
 | [],k=>rfl
 |x::l,k=>by
  show fi x.1 (λa=>fi x.2 λb=>fcP l λr=>k ((a,b)::r))=_;rw[Oo,Oo,aaP l]
theorem aaQ {R:Type}:∀(l:V6 (V6 (Int×Int))) (k:V6 (V6 (Int×Int))->R),fcR l k=k l
 | [],k=>rfl
 |x::l,k=>by
  show fcP x (λx=>fcR l λr=>k (x::r))=_;rw[aaP,aaQ l]
def abO (b:V4) (H:GH):OR:=Bool.casesOn (motive:=λ_=>OR) b (some (.bool false,H)) (some (.bool true,H))
def Vp (r:V6 Int×V6 (V6 (Int×Int))) (H:GH):OR:=fcI r.1 λx=>fcR r.2 λy=>bif Nat.beq x.length 0 then none else bif Nat.beq y.length 0 then none else bif y.any λl=>Nat.beq l.length 0 then none else
 fc (x.flatMap gI) λl=>H.newK (.cells l) λh a=>fc (xO 2 gP y a).1 λd=>sn x.length λn=>sn y.length λm=>(xO 2 gP y a).2.newK (.cells d) λc b=>some (.agg [.sl h 0 n 1,.sl c 0 m 1],b)
end
section
variable {P:Program} {gs:AZ} {w0:fM gs} {w:V2} {ρ:eZ} {H H':GH} {g:GV}
theorem qE.one {x:GV} {vs:V6 V0} (h:qE ρ [x] vs):∃V,vs=[V]/\Rl ρ x V:=by
 obtain⟨v,vs,rfl,a,b⟩:=h.of_cons;rw[b.of_nil];exact⟨v,rfl,a⟩
theorem Fz {k:IntKind} {v:GV} {V:V0} {n:Int} (a:Rl ρ v V) (h:dSc k v=some n):V = .int k n:=by
 obtain⟨p,c,h⟩:=aE.1 (show ob v.asI _=some n from h);obtain⟨b,h⟩:=bV.1 h;cases h;rw[nK c]at a;rw[a.int_inv,Ju b]
theorem Z_ {v:GV} {V:V0} {b:V4} (a:Rl ρ v V) (h:v.asB=some b):V = .bool b:=by
 rw[Do h]at a;exact a.bool_inv
theorem Sr (R:gQ w0 ρ H w) {v:GV} {V:V0} {a:V6 Int} (b:Rl ρ v V) (h:aaD H v=some a):(Sl (eD.int .u32) V a).p w All:=by
 obtain⟨d,rfl,c⟩:=CY R (λ_ _=>trivial) (eS.int .u32) b h;rw[List.map_id];exact c
theorem aeC (R:gQ w0 ρ H w) {v:GV} {V:V0} {p:Int×V6 Int×V6 Int×V6 Int×V4×V4} (l:Rl ρ v V) (h:ajp H v=some p):
  ∃m o s,V = .agg #[.int .i64 p.1,m,o,s,.bool p.2.2.2.2.1,.bool p.2.2.2.2.2]/\(Sl (eD.int .i64) m p.2.1).p w All/\(Sl (eD.int .i64) o p.2.2.1).p w All/\(Sl (eD.int .i64) s p.2.2.2.1).p w All:=by
 obtain⟨T,k,h⟩:=aE.1 (show ob v.asA _=some p from h);obtain⟨a,b,c,d,e,f,rfl,h⟩:=adF h;obtain⟨n,I,h⟩:=aE.1 h;obtain⟨x,L,h⟩:=aE.1 h;obtain⟨y,M,h⟩:=aE.1 h;obtain⟨z,N,h⟩:=aE.1 h;obtain⟨q,J,h⟩:=aE.1 h;obtain⟨r,K,h⟩:=aE.1 h;cases h;rw[LW k]at l;obtain⟨j,rfl,i,_⟩:=l.agg_inv;obtain⟨U,j,rfl,B,i⟩:=i.of_cons;obtain⟨O,j,rfl,C,i⟩:=i.of_cons;obtain⟨Q,j,rfl,D,i⟩:=i.of_cons;obtain⟨S,j,rfl,E,i⟩:=i.of_cons;obtain⟨W,j,rfl,F,i⟩:=i.of_cons;obtain⟨X,rfl,G⟩:=i.one;have t:=Fz B I;have u:=Z_ F J;have A:=Z_ G K;subst t u A;exact⟨O,Q,S,rfl,Ip R C L,Ip R D M,Ip R E N⟩
theorem MR {b:V4} (h:abO b H=some (g,H')):g = .bool b/\H'=H:=by
 cases b<;>cases h<;>exact⟨rfl,rfl⟩
theorem Ta {r:V6 Int×V6 (V6 (Int×Int))} (h:Vp r H=some (g,H')):r.1≠[]/\r.2≠[]/\(∀a∈r.2,a≠[])/\
  g = .agg [.sl H.n 0 r.1.length 1,.sl (xO 2 gP r.2 (H.new (.cells (r.1.flatMap gI)))).2.n 0 r.2.length 1]/\H'=(xO 2 gP r.2 (H.new (.cells (r.1.flatMap gI)))).2.new (.cells (xO 2 gP r.2 (H.new (.cells (r.1.flatMap gI)))).1):=by
 unfold Vp at h;rw[aaO,aaQ]at h;obtain⟨b,h⟩:=lE.1 h;obtain⟨c,h⟩:=lE.1 h;obtain⟨d,h⟩:=lE.1 h;rw[Ss,jM,Ss,yS,yS,jM]at h;cases h;refine⟨λe=>(by rw[e]at b;cases b),λe=>(by rw[e]at c;cases c),λa f e=>?_,rfl,rfl⟩
 have:=List.any_eq_false.1 d a f;rw[e]at this;exact this Z
theorem ajs (ρ:eZ) (x:Int):qE ρ (gI x) [.int .i64 x]:= .cons (.int _ _) .nil
theorem ajt (ρ:eZ) (x:Int×Int):qE ρ (gP x) [.int .i64 x.1,.int .i64 x.2]:= .cons (.int _ _) (.cons (.int _ _) .nil)
def glb (b:Nat) (a:V6 V0) (T:Nat):AZ:=⟨[(b,.cells a.toArray T (0,0))],[]⟩
theorem UW {b:Nat} {a:V6 V0} (w:V2) (S:Nat->Prop) (h:∀h∈[Gb b a],h.p w S):∃T,Kh (glb b a T) w λ_=>False:=by
 obtain⟨_,T,c⟩:=h _ (zBe.2 Z);exact⟨T,λp d=>by obtain rfl:=zBe.1 d;exact⟨c,id⟩⟩
theorem gQ.glb {b:Nat} {a:V6 V0} {T:Nat} {c:fM (glb b a T)} {w:V2} {ρ:eZ} {H:GH} (R:gQ c ρ H w):(Gb b a).p w All:=⟨trivial,T,(R.glo _ (zBe.2 Z)).1⟩
theorem Qr {gs:Nat->AZ} {f:Nat} {V:V0} {L:V6 aZ} (q:∀w S,(∀h∈L,h.p w S)->∃T,Kh (gs T) w λ_=>False) (r:aU P f) (y:∀ρ d,Rl ρ g d->d=V) (h:∀T (b:fM (gs T)),lK P b (λ_=>none) f [] b.w g H'):a_ P f #[] L (λ_:Unit=>V) (λ_ l=>l) (λ_ l=>l):=by
 intro w0 o z;obtain⟨T,n⟩:=q w0 o z;rcases h T (.of w0 n)with⟨v,A,c,a,_⟩|⟨_,s⟩
 .have x:=r #[] w0;rw[show([]:V6 V0).toArray = #[]from rfl]at a;rw[show(fM.of w0 n).w=w0 from rfl,x]at a;cases a
 refine s.mono ?_;rintro e A ⟨v,c,rfl,_,R,a⟩;exact⟨(),by rw[y _ _ a],R.ext,λ_ _=>False,⟨λi m u=>by simp at u,λi k h=>h.elim,λi j k h=>h.elim⟩,λf t=>by simp at t⟩
section
variable {tb:TB} {T:V9}
theorem Wg (h:DF tb T=some [Ai]) (H:GH):wH tb T H=some (.ptr H.n 0,H.new (.cells [Ai])):=by
 unfold wH;rw[h];show H.newK (.cells [Ai]) (λh H'=>some (GV.ptr h 0,H'))=_;rw[jM]
theorem Xr {t:Ty} (h:tb T=some t) (e:t.size=1) (H:GH) (k:Nat) (c:GV) (d:GH.cells H k=some [c]):qD tb T (.ptr k 0) Ai H=some (.un,H.set k (.cells [Ai])):=by
 show ob (H.cells k) (λb=>ob (tb T) λt=>bif Nat.beq 1 t.size then bif Nat.beq t.size 0 then none else ob (Iu [Ai] 0 b) λa=>H.setK k (.cells a) λH'=>some (GV.un,H')else none)=_;rw[d,h];show(bif Nat.beq 1 t.size then bif Nat.beq t.size 0 then none else ob (Iu [Ai] 0 [c]) λa=>H.setK k (.cells a) λH'=>some (GV.un,H')else none)=_;rw[e];show H.setK k (.cells [Ai]) (λH'=>some (GV.un,H'))=_;rw[Ap]
theorem abu {t:Ty} (h:tb T=some t) (b:yA t.desc=false) (H:GH) (k:Nat) (c:GH.cells H k=some [Ai]):uR tb T (.ptr k 0) H=some Ai:=by
 show ob (H.cells k) (λa=>ob (tb T) λt=>Dc t a 0)=_;rw[c,h];show Dc t [Ai] 0=_;unfold Dc;rw[b];rfl
end
def PM (a:Func):V6 V5:=match a.body with
 |some (.seq (.region _ ops _) _)=>ops.toList
 |_=>[]
def aao (a:Func):Code:=match a.body with
 |some (.seq _ c)=>c
 |_=> .skip
def aeA (a:Func):Nat:=match PM a with
 |o::_=>o.dst.getD 0
 | []=>0
def okN (r:RS):V4:=match r with
 |some o=>match o.e with
  | .normal=>true
  |_=>false
 |none=>false
theorem abP {r:RS} (h:okN r=true):∃a,r=some a/\a.e = .normal:=by
 unfold okN at h;cases r with
 |none=>cases h
 |some o=>
  refine⟨o,rfl,?_⟩
  cases b:o.e<;>simp only[b]at h<;>first|rfl|cases h
def okT (r:OR):V4:=match r with
 |some (.bool true,_)=>true
 |_=>false
theorem abQ {r:OR} (h:okT r=true):∃H',r=some (.bool true,H'):=by
 unfold okT at h;split at h
 .exact⟨_,rfl⟩
 .cases h
end
end Go.Gx
namespace Go.Proofs.YtgciopekomcbfaaGreatDoor
open Go.Sx
def oW (a:Unit):V1 V4:=
 some (true)
def jV (d:aW) (a:Int×V6 (V4)) (c:(Int×V6 (V4))->V1 V4) (b:V4):V1 V4:=
 if b=true then(some (false))else(ck ((0<=(at' d a.1)/\(at' d a.1)<((256:Nat):Int))/\a.2.length=256) (c ((wI .i64 (a.1+(1:Int))),(List.set a.2 (Int.toNat (at' d a.1)) true))))
def iD (b:aW) (a:Int×V6 (V4)) (c:(Int×V6 (V4))->V1 V4):V1 V4:=
 if a.1<(b.length:Int)then(ck (0<=a.1/\a.1<(b.length:Int)) (if(at' b a.1)<(0:Int)then(jV b a c (true))else(if(255:Int)<(at' b a.1)then(jV b a c (true))else(ck ((0<=(at' b a.1)/\(at' b a.1)<((256:Nat):Int))/\a.2.length=256) (jV b a c ((at' a.2 (at' b a.1))))))))else(oW (()))
def kS (U:Nat) (a:aW):V1 V4:=
 bN (iD a) U ((0:Int),(List.replicate 256 false))
theorem adR:aU prog 122:=call122
theorem FQ (U:Nat) {d:aW} (o:V0) (r:V4) (h:kS U d=some r):
  a_ prog 122 #[o] [Sl aL o d] (λx:Unit=>vB (r)) (λx l=>l) (λ_ l=>l):=by
 let k:=(List.replicate 256 false)
 refine a_.of func122 Z ntmps122 Z λc=>?_;unfold kS at h;refine Q4 Z<|aP<|aI (aN.alloc (cs:=cellsOf EBo k) Z (by kernel_rfl)) Z λn=>?_;refine aM<|aK<|iA (λm=>oW m=some r) (λm p=>[]) (λm p=>[]) ?_ ?_
 .refine Q6 Z<|kG (dH Z) Z<|aA Z<|aM<|aS<|gC (iD d) (λa q=>[(3,vP n),(6,o),(7,vI (d.length:Int)),(8,vI (a.1))]) (λa q=>[bH n (cellsOf EBo a.2) 184]) ((0:Int),k) () h SF (aX.refl _) ?_;intro s a q h;refine aP<|dD Z<|aM<|aK<|eI h Z (λh=>?_) λh=>?_
  .refine cQ<|aK<|aS<|aP<|dV h λg h=>aB (bR Z Z (dH Z) Z Z g) Z<|aB (cK Z (dH Z) Z Z Z gF g) Z<|Q5 Z<|aK<|aK<|iA (λb=>jV d a (bN (iD d) s) b=some r) (λb f=>[(3,vP n),(5,vI (at' d a.1)),(6,o),(7,vI (d.length:Int)),(8,vI (a.1)),(22,vB (b))]) (λb f=>[bH n (cellsOf EBo a.2) 184]) ?_ ?_
   .refine aR<|aA Z<|dD Z<|aA Z<|GN h Z (λ_ h=>?_) λ_ h=>?_
    .exact aQ Z<|aQ Z<|gE Z<|aA Z<|aQ Z<|aQ Z<|aQ Z<|gE Z<|aM<|j_ (true) () h SF Z
    refine iP Z<|bA Z (wM Z Z) Z<|jD Z<|aA Z<|GN h Z (λ_ h=>?_) λ_ h=>?_
    .exact aQ Z<|aQ Z<|aQ Z<|gE Z<|aM<|j_ (true) () h SF Z
    exact iP Z<|dV h λj h=>bA Z (p_ Z Z Z Z Z j.1) Z<|bA Z (XQ (e:=EBo) Z (aG.res 0 Z) Z Z Z Z j) Z<|jD Z<|aM<|j_ ((at' a.2 (at' d a.1))) () h SF Z
   intro b f h;refine Ca h Z (λ_ h=>?_) λ_ h=>?_
   .refine Q4 Z<|aT<|aJ<|bW<|aJ<|aJ<|bW<|aJ ?_;cases h;exact xT Z
   exact cQ<|aR<|aA Z<|dV h λi h=>aB (p_ Z Z Z Z Z i.1) Z<|LE 0 (e:=EBo) true i Z Z Z Z Z Z Z<|eW<|m_<|aR<|cU Z<|aA Z<|aM<|BD ((wI .i64 (a.1+(1:Int))),(List.set a.2 (Int.toNat (at' d a.1)) true)) () h SF Z
  exact fO<|cT () (()) h SF .nil (aF.refl _ _)
 intro m p h;unfold oW at h;refine Q4 Z<|aT ?_;cases h;exact mA Z
def yB (c:(V6 ((Int×Int)×Int))) (a:(Int×Int)×Int) (b:V1 V4):V1 V4:=
 if(Option.getD (nW (a.1.2,a.1.1) c) (0:Int))≠a.2 then(some (false))else(b)
def kH (a:(V6 ((Int×Int)×Int))):V1 V4:=
 NC (yB a) (some (true)) a
def oE (b:KB) (a:OS->V1 V4) (c:(V6 ((Int×Int)×Int))):V1 V4:=
 a ((wI .i64 (b.1+(1:Int))),c)
def kI (e:fY) (b a:KB) (c:OS->V1 V4) (d:V4):V1 V4:=
 if d=true then(some (false))else(if(Option.isSome (nW (b.1,((at' (at' e b.1) a.1).1)) a.2))=true then(some (false))else(c ((wI .i64 (a.1+(1:Int))),(EA (b.1,((at' (at' e b.1) a.1).1)) ((at' (at' e b.1) a.1).2) a.2))))
def iY (d:fY) (a b:KB) (c:OS->V1 V4) (e:V4):V1 V4:=
 if e=true then(some (false))else(if((at' (at' d a.1) b.1).2)<(1:Int)then(kI d a b c (true))else(kI d a b c (decide ((15:Int)<((at' (at' d a.1) b.1).2)))))
def dG (d:fY) (a:KB) (e:OS->V1 V4) (b:KB) (c:OS->V1 V4):V1 V4:=
 if b.1<((at' d a.1).length:Int)then(ck (0<=b.1/\b.1<((at' d a.1).length:Int)) (if((at' (at' d a.1) b.1).1)<(0:Int)then(iY d a b c (true))else(if(d.length:Int)<=((at' (at' d a.1) b.1).1)then(iY d a b c (true))else(iY d a b c (decide (((at' (at' d a.1) b.1).1)=a.1))))))else(oE a e (b.2))
def dY (U:Nat) (c:fY) (a:KB) (b:OS->V1 V4):V1 V4:=
 if a.1<(c.length:Int)then(ck (0<=a.1/\a.1<(c.length:Int)) (bN (dG c a b) U ((0:Int),a.2)))else(kH (a.2))
def iK (U:Nat) (a:fY):V1 V4:=
 bN (dY U a) U ((0:Int),([]:V6 ((Int×Int)×Int)))
theorem adS:aU prog 123:=call123
theorem IS (U:Nat) {f:fY} (n:V0) (F:mS) (r:Bool) (h:iK U f=some r):
  a_ prog 123 #[n] [S2 aY n F f] (λx:Unit=>vB (r)) (λx l=>l) (λ_ l=>l):=by
 refine a_.of func123 Z ntmps123 Z λc=>?_;unfold iK at h;refine aP<|aC Z<|aM<|aP<|aI (aN.makeMap oQ TO) Z λk=>aC Z<|aM<|aK<|iA (λq=>kH q=some r) (λq H=>[(3,Value.map (some k))]) (λq H=>[Mp oQ TO k q]) ?_ ?_
 .refine aP<|aA Z<|aB (fN Z (dH Z) Z) Z<|aA Z<|aM<|aS<|gC (dY U f) (λd y=>[(0,n),(3,Value.map (some k)),(14,n),(15,vI (f.length:Int)),(16,vI (d.1))]) (λd y=>[Mp oQ TO k d.2]) ((0:Int),([]:List ((Int×Int)×Int))) () h SF (aX.refl _) ?_;intro t d y h;refine aP<|dD Z<|aM<|aK ?_;refine eI h Z (λh=>?_) λh=>?_
  .refine cQ<|aK<|iA (λm=>oE d (bN (dY U f) t) m=some r) (λm z=>[(0,n),(3,Value.map (some k)),(14,n),(15,vI (f.length:Int)),(16,vI (d.1))]) (λm z=>[Mp oQ TO k m]) ?_ ?_
   .refine aS<|aP<|aA Z<|dV h λj h=>aB (cA Z Z (dH Z) Z Z j) Z<|aB (cW Z (dH Z) Z Z j) Z<|aC Z<|aC Z<|aM<|aP<|aA Z<|aB (iN Z (zBm (dH Z) j.1 j.2) Z) Z<|aA Z<|aM<|aS<|gC (dG f d (bN (dY U f) t)) (λe A=>[(0,n),(3,Value.map (some k)),(4,vI (d.1)),(14,n),(15,vI (f.length:Int)),(16,vI (d.1)),(21,(at' F d.1).1),(22,vI ((at' f d.1).length:Int)),(23,vI (e.1))]) (λe A=>[Mp oQ TO k e.2]) ((0:Int),d.2) () h SF (aX.refl _) ?_;intro E e A h;refine aP<|dD Z<|aM<|aK ?_;refine eI h Z (λh=>?_) λh=>?_
    .refine cQ<|aK<|aS<|aP<|dV h λD h=>aB (bR Z Z (zBm (dH Z) j.1 j.2) Z Z D) Z<|aB (gT (cs:=[vI ((at' (at' f d.1) e.1).1),vI ((at' (at' f d.1) e.1).2)]) Z (zBm (dH Z) j.1 j.2) bX Z Z Z Z D) Z<|aI (aN.alloc (cs:=Uj) Z Z) Z λs=>bQ 0 (vs:=[vI ((at' (at' f d.1) e.1).1),vI ((at' (at' f d.1) e.1).2)]) Z Z Z Z Z Z<|aM<|aK<|aK<|iA (λo=>iY f d e (bN (dG f d (bN (dY U f) t)) E) o=some r) (λo B=>[(0,n),(3,Value.map (some k)),(4,vI (d.1)),(7,vP s),(14,n),(15,vI (f.length:Int)),(16,vI (d.1)),(21,(at' F d.1).1),(22,vI ((at' f d.1).length:Int)),(23,vI (e.1)),(42,vB (o))]) (λo B=>[bH s [vI ((at' (at' f d.1) e.1).1),vI ((at' (at' f d.1) e.1).2)] 45,Mp oQ TO k e.2]) ?_ ?_
     .refine aR<|bT Z<|dO 0 Z<|dD Z<|aA Z ?_;refine GN h Z (λ_ h=>?_) λ_ h=>?_
      .refine aQ Z<|aQ Z<|aQ Z<|aQ Z<|aQ Z<|gE Z<|aA Z<|aQ Z<|aQ Z<|aQ Z<|aQ Z<|gE Z<|aM ?_;exact j_ (true) () h SF Z
      refine bA Z (cV Z Z Z Z Z) Z<|bA Z (eB 0 Z Z Z Z Z) Z<|iP Z<|bA Z (fN Z (dH Z) Z) Z<|bA Z (CV Z Z) Z<|jD Z<|aA Z ?_;refine GN h Z (λ_ h=>?_) λ_ h=>?_
      .refine aQ Z<|aQ Z<|aQ Z<|aQ Z<|gE Z<|aM ?_;exact j_ (true) () h SF Z
      refine bA Z (cV Z Z Z Z Z) Z<|bA Z (eB 0 Z Z Z Z Z) Z<|iP Z<|bA Z (ZL Z Z) Z<|jD Z<|aM ?_;exact j_ (decide (((at' (at' f d.1) e.1).1)=d.1)) () h SF Z
     intro o B h;refine Ca h Z (λ_ h=>?_) λ_ h=>?_
     .refine aP<|aC Z<|aM<|aT<|aJ<|bW<|aJ<|aJ<|bW<|bW<|aJ<|aJ<|bW<|aJ ?_;cases h;exact xT Z
     refine cQ<|aK<|aK<|iA (λp=>kI f d e (bN (dG f d (bN (dY U f) t)) E) p=some r) (λp C=>[(0,n),(3,Value.map (some k)),(4,vI (d.1)),(7,vP s),(14,n),(15,vI (f.length:Int)),(16,vI (d.1)),(21,(at' F d.1).1),(22,vI ((at' f d.1).length:Int)),(23,vI (e.1)),(50,vB (p))]) (λp C=>[bH s [vI ((at' (at' f d.1) e.1).1),vI ((at' (at' f d.1) e.1).2)] 45,Mp oQ TO k e.2]) ?_ ?_
     .refine aR<|bT Z<|dO 0 Z<|dD Z<|aA Z ?_;refine GN h Z (λ_ h=>?_) λ_ h=>?_
      .refine aQ Z<|aQ Z<|aQ Z<|gE Z<|aM ?_;exact j_ (true) () h SF Z
      refine bA Z (cV Z Z Z Z Z) Z<|bA Z (eB 0 Z Z Z Z Z) Z<|bA Z (wM Z Z) Z<|jD Z<|aM ?_;exact j_ (decide ((15:Int)<((at' (at' f d.1) e.1).2))) () h SF Z
     intro p C h;refine Ca h Z (λ_ h=>?_) λ_ h=>?_
     .refine aP<|aC Z<|aM<|aT<|aJ<|bW<|aJ<|aJ<|bW<|bW<|aJ<|aJ<|bW<|aJ ?_;cases h;exact xT Z
     refine cQ<|aP<|aA Z<|bT Z<|dO 0 Z ?_;refine aB (El (r:=Value.agg #[vI (d.1),vI ((at' (at' f d.1) e.1).1)]) Z Z (by intro w;simp[Instr.build,Instr.fill,cY,cI,cD,cZ,c_,cJ,dU])) Z ?_;refine aI (aN.alloc (cs:=Uj) Z Z) Z λK=>bQ 0 (vs:=[vI (d.1),vI ((at' (at' f d.1) e.1).1)]) Z Z Z Z Z Z<|aM<|aK<|aP<|aA Z<|dL 0 Z ?_;refine aB (R_ 2 ((d.1,((at' (at' f d.1) e.1).1))) (u:=vI (Option.getD (nW (d.1,((at' (at' f d.1) e.1).1)) e.2) (0:Int))) Qm Z Z Z Z Z (by cases nW ((d.1,((at' (at' f d.1) e.1).1))) e.2<;>rfl)) Z ?_;refine aA Z<|kF Z<|kF Z<|aC Z<|aC Z<|aM<|aP<|aA Z<|aM ?_;refine Ca h Z (λ_ h=>?_) λ_ h=>?_
     .refine aP<|aC Z<|aM<|aT<|aJ<|bW<|aJ<|aJ<|bW<|bW<|aJ<|aJ<|bW<|aJ ?_;cases h;exact xT Z
     refine cQ<|aR<|aA Z<|dL 0 Z<|bT Z<|dO 1 Z<|Rn 2 ((d.1,((at' (at' f d.1) e.1).1))) ((at' (at' f d.1) e.1).2) Qm Z Z Z Z Z<|eW<|m_<|aR<|cU Z<|aA Z<|aM ?_;exact iH ((wI .i64 (e.1+(1:Int))),(EA (d.1,((at' (at' f d.1) e.1).1)) ((at' (at' f d.1) e.1).2) e.2)) () h SF (aX.ix [2] Z Z) (aF.refl _ _)
    refine tB<|fT<|fT<|Aj<|m_ ?_;exact j_ (e.2) () h SF Z
   intro m z h;unfold oE at h;refine aR<|cU Z<|aA Z<|aM ?_;exact BD ((wI .i64 (d.1+(1:Int))),m) () h SF Z
  refine fO ?_;exact j_ (d.2) () h SF Z
 intro q H h;unfold kH at h;refine aK<|aP<|aA Z<|aI (aN.range 0 Z Z Z) Z λI=>aM<|aS<|adx [(3,Value.map (some k)),(69,vP I)] [It I k (q.length) ([]),Mp oQ TO k q] [S2 aY n F f] SF (aX.refl _) (aF.refl _ _) ?_;refine XM (yB q) 1 0 (by intro a b x;unfold yB;repeat' split;all_goals first|rfl|contradiction|simp_all) h Z Z Z Z Z Z ?_ ?_
 .skip
  intro g N G M v h;refine aS<|aP<|aI (aN.entry 1 0 v Z Z Z) Z λL=>kF Z<|kF Z<|aI (aN.alloc (cs:=Uj) Z Z) Z λJ=>bQ 0 (vs:=[vI (g.1.1),vI (g.1.2)]) Z Z Z Z Z Z<|aC Z<|aM<|aP<|aA Z ?_;refine aB (p_ (i:=1) Z Z Z Z Z (by decide)) Z ?_;refine dO 0 Z ?_;refine aB (p_ (i:=0) Z Z Z Z Z (by decide)) Z ?_;refine dO 0 Z ?_;refine aB (El (r:=Value.agg #[vI (g.1.2),vI (g.1.1)]) Z Z (by intro w;simp[Instr.build,Instr.fill,cY,cI,cD,cZ,c_,cJ,dU])) Z ?_;refine aB (R_ 2 ((g.1.2,g.1.1)) (u:=vI (Option.getD (nW (g.1.2,g.1.1) q) (0:Int))) Qm Z Z Z Z Z (by cases nW ((g.1.2,g.1.1)) q<;>rfl)) Z ?_;refine aA Z<|oZ Z<|aM ?_;refine eI h Z (λh=>?_) λh=>?_
  .refine aP<|aC Z<|aM<|aT<|bW<|aJ<|bW<|aJ ?_;cases h;exact xT Z
  refine eP<|m_ ?_;exact Uo h SF (aX.ix [1,2] Z Z) (aF.refl _ _)
 intro G h;refine Aj<|CU<|aP<|aC Z<|aM<|aT ?_;cases h;exact xT Z
def qY (a:V4):V1 V4:=
 some (a)
def qX (U:Nat) (b:dM) (c:V4):V1 V4:=
 if c=true then(some (false))else(Option.bind (kS U b.1) λd=>(if d=true then(Option.bind (iK U b.2) λa=>(qY (a)))else(qY (false))))
def h_ (U:Nat) (a:dM):V1 V4:=
 if(a.1.length:Int)<(1:Int)then(qX U a (true))else(if(24:Int)<(a.1.length:Int)then(qX U a (true))else(qX U a (decide ((a.2.length:Int)≠(a.1.length:Int)))))
theorem PL:aU prog 70:=call70
theorem AX (U:Nat) {p0:dM} (f g:V0) (o:mS) (r:V4) (h:h_ U p0=some r):
  a_ prog 70 #[Value.agg #[f,g]] [Sl aL f p0.1,S2 aY g o p0.2] (λx:Unit=>vB (r)) (λx l=>l) (λ_ l=>l):=by
 refine a_.of func70 Z ntmps70 Z λc=>aP<|aI (aN.box (cs:=[f,g]) Z Z) Z λk=>Q5 Z<|aP<|bT Z<|dO 0 Z<|kG (dH Z) Z<|Q5 Z<|aK<|aK<|iA (λb=>qX U p0 b=some r) (λb m=>[(1,vP k),(19,vB (b))]) (λb m=>[bH k [f,g] 28]) ?_ ?_
 .refine aR<|aA Z<|dD Z<|aA Z<|GN h Z (λ_ h=>?_) λ_ h=>?_
  .exact aQ Z<|aQ Z<|gE Z<|aA Z<|aQ Z<|aQ Z<|aQ Z<|aQ Z<|aQ Z<|gE Z<|aM<|j_ (true) () h SF Z
  refine iP Z<|bA Z (wM Z Z) Z<|jD Z<|aA Z<|GN h Z (λ_ h=>?_) λ_ h=>?_
  .exact aQ Z<|aQ Z<|aQ Z<|aQ Z<|aQ Z<|gE Z<|aM<|j_ (true) () h SF Z
  exact bA Z (cV Z Z Z Z Z) Z<|bA Z (eB 0 Z Z Z Z Z) Z<|bA Z (fN Z (yQ Z) Z) Z<|iP Z<|bA Z (Kl Z Z) Z<|jD Z<|aM<|j_ (decide ((p0.2.length:Int)≠(p0.1.length:Int))) () h SF Z
 intro b m h;refine Ca h Z (λ_ h=>?_) λ_ h=>?_
 .refine Q4 Z<|aT<|aJ ?_;cases h;exact xT Z
 refine cQ<|aK<|iA (λd=>qY d=some r) (λd n=>[(2,vB (d))]) (λd n=>[]) ?_ ?_
 .refine aR<|bT Z<|dO 0 Z<|fP h λp i h=>aI (zBk adR (FQ U f p i) Z (jS [0] Z)) Z λq=>aA Z<|Ef (by exact rfl) (by exact rfl) (λa=>?_) (λa=>?_)
  .have h:=SE a h;exact bA Z (cV Z Z Z Z Z) Z<|bA Z (eB 0 Z Z Z Z Z) Z<|fP h λe j h=>BI Z (zBk adS (IS U g o e j) Z (jS [1] Z)) Z λs=>gE Z<|Q5 Z<|cT (e) () h SF .nil (aF.refl _ _)
  have h:=Qh a h;exact aQ Z<|aQ Z<|aQ Z<|jD Z<|Q5 Z<|cT (false) () h SF .nil (aF.refl _ _)
 intro d n h;unfold qY at h;refine aT ?_;cases h;exact mA Z
def sV (a:Int):V1 (Int):=
 some (a)
def gM (U:Nat) (b a:Int):V1 (Int):=
 if a<(1:Int)then(some (0:Int))else(ck (a≠0) (if(Int.tmod b a)<(0:Int)then(sV (wI .i64 ((Int.tmod b a)+a)))else(sV (Int.tmod b a))))
theorem Hc:aU prog 4:=call4
theorem jZ (U:Nat) {d b:Int} (r:Int) (h:gM U d b=some r):
  a_ prog 4 #[vI (d),vI (b)] [] (λx:Unit=>vI (r)) (λx l=>l) (λ_ l=>l):=by
 refine a_.of func4 Z ntmps4 Z λc=>Q4 Z<|aK<|Q6 Z<|dD Z<|aM<|eI h Z (λh=>?_) λh=>?_
 .refine Q4 Z<|aT<|aJ ?_;cases h;exact mA Z
 refine cQ<|Q6 Z<|aA Z<|dV h λf h=>aB (Sa Z Z f) Z<|Q5 Z<|aK<|iA (λa=>sV a=some r) (λa e=>[(0,vI (a))]) (λa e=>[]) ?_ ?_
 .refine Q6 Z<|dD Z<|aM<|eI h Z (λh=>?_) λh=>?_
  .exact aR<|aA Z<|aA Z<|cU Z<|Q5 Z<|j_ (wI .i64 ((Int.tmod d b)+b)) () h SF Z
  exact cQ<|j_ (Int.tmod d b) () h SF Z
 intro a e h;unfold sV at h;refine Q6 Z<|Q5 Z<|aT ?_;cases h;exact mA Z
def uK (U:Nat) (b:aW) (a:Int):V1 (Int):=
 if a<(b.length:Int)then(ck (0<=a/\a<(b.length:Int)) (some (at' b a)))else(some (0:Int))
theorem Mc:aU prog 36:=call36
theorem CI (U:Nat) {b:aW} {d:Int} (e:V0) (r:Int) (h:uK U b d=some r):
  a_ prog 36 #[e,vI (d)] [Sl aL e b] (λx:Unit=>vI (r)) (λx l=>l) (λ_ l=>l):=by
 refine a_.of func36 Z ntmps36 Z λc=>Q4 Z<|aK<|Q6 Z<|aA Z<|kG (dH Z) Z<|dD Z<|aM<|eI h Z (λh=>?_) λh=>?_
 .refine Q6 Z<|aA Z<|dV h λa h=>aB (bR Z Z (dH Z) Z Z a) Z<|aB (cK Z (dH Z) Z Z Z gF a) Z<|Q5 Z<|aT<|aJ ?_;cases h;exact mA Z
 refine cQ<|Q4 Z<|aT ?_;cases h;exact mA Z
def xZ (a:Unit):V1 V4:=
 some (false)
def BC (c:dM) (a e b:Int) (d:(Int)->V1 V4):V1 V4:=
 ck (0<=a/\a<(c.2.length:Int)) (if b<((at' c.2 a).length:Int)then(ck (0<=a/\a<(c.2.length:Int)) (ck (0<=b/\b<((at' c.2 a).length:Int)) (if((at' (at' c.2 a) b).1)=e then(some (true))else(d (wI .i64 (b+(1:Int)))))))else(xZ (())))
def oK (U:Nat) (a:dM) (b c:Int):V1 V4:=
 bN (BC a b c) U (0:Int)
theorem adX:aU prog 142:=call142
theorem No (U:Nat) {g:dM} {i j:Int} (k m:V0) (q:mS) (r:V4) (h:oK U g i j=some r):
  a_ prog 142 #[Value.agg #[k,m],vI (i),vI (j)] [Sl aL k g.1,S2 aY m q g.2] (λx:Unit=>vB (r)) (λx l=>l) (λ_ l=>l):=by
 refine a_.of func142 Z ntmps142 Z λc=>?_;unfold oK at h;refine aP<|aI (aN.box (cs:=[k,m]) Z Z) Z λn=>Q5 Z<|aK<|iA (λd=>xZ d=some r) (λd o=>[]) (λd o=>[]) ?_ ?_
 .refine Q4 Z<|aS<|gC (BC g i j) (λe p=>[(1,vI (i)),(2,vI (j)),(3,vP n),(7,vI (e))]) (λe p=>[bH n [k,m] 28]) (0:Int) () h SF (aX.refl _) ?_;intro s e p h;refine aK<|Q6 Z<|bT Z<|dO 0 Z<|aA Z<|dV h λf h=>aB (cA Z Z (yQ Z) Z Z f) Z<|aB (cW Z (yQ Z) Z Z f) Z<|aB (iN Z (zBm (yQ Z) f.1 f.2) Z) Z<|dD Z<|aM<|eI h Z (λh=>?_) λh=>?_
  .refine cQ<|aK<|aS<|aP<|bT Z<|dO 0 Z<|aA Z<|dV h λa h=>aB (cA Z Z (yQ Z) Z Z a) Z<|aB (cW Z (yQ Z) Z Z a) Z<|aA Z<|dV h λb h=>aB (bR Z Z (zBm (yQ Z) a.1 a.2) Z Z b) Z<|aB (nT Z Z Z Z Z) Z<|aB (qI Z (zBm (yQ Z) a.1 a.2) Z Z Z Aq b) Z<|aA Z<|bZ Z<|aM<|eI h Z (λh=>?_) λh=>?_
   .refine Q4 Z<|aT<|bW<|aJ<|aJ<|bW<|aJ ?_;cases h;exact xT Z
   exact eP<|m_<|aR<|aA Z<|cU Z<|Q5 Z<|BD (wI .i64 (e+(1:Int))) () h SF Z
  exact fO<|cT () (()) h SF .nil (aF.refl _ _)
 intro d o h;unfold xZ at h;refine Q4 Z<|aT ?_;cases h;exact mA Z
def qK (f:An) (c:dM) (a b d:Int) (e:V4):V1 (fY):=
 if e=true then(some (c.2))else(if f.2.2.2.2.2=true then(ck (0<=a/\a<(c.2.length:Int)) (ck ((List.length ([(b,d)]):Int)+((at' c.2 a).length:Int)<=1099511627) (ck (0<=a/\a<(c.2.length:Int)) (ck (0<=b/\b<((List.set c.2 (Int.toNat a) (([(b,d)])++(at' c.2 a))).length:Int)) (ck ((List.length ([(a,d)]):Int)+((at' (List.set c.2 (Int.toNat a) (([(b,d)])++(at' c.2 a))) b).length:Int)<=1099511627) (ck (0<=b/\b<((List.set c.2 (Int.toNat a) (([(b,d)])++(at' c.2 a))).length:Int)) (some (List.set (List.set c.2 (Int.toNat a) (([(b,d)])++(at' c.2 a))) (Int.toNat b) (([(a,d)])++(at' (List.set c.2 (Int.toNat a) (([(b,d)])++(at' c.2 a))) b))))))))))else(ck (0<=a/\a<(c.2.length:Int)) (ck (0<=b/\b<(c.2.length:Int)) (ck (((at' c.2 a).length:Int)+(List.length ([(b,d)]):Int)<=1099511627) (ck (((at' c.2 b).length:Int)+(List.length ([(a,d)]):Int)<=1099511627) (ck (Int.toNat a≠Int.toNat b) (ck (0<=a/\a<((List.set (List.set c.2 (Int.toNat a) ((at' c.2 a)++([(b,d)]))) (Int.toNat b) ((at' c.2 b)++([(a,d)]))).length:Int)) (ck (0<=b/\b<((List.set (List.set c.2 (Int.toNat a) ((at' c.2 a)++([(b,d)]))) (Int.toNat b) ((at' c.2 b)++([(a,d)]))).length:Int)) (some (List.set (List.set c.2 (Int.toNat a) ((at' c.2 a)++([(b,d)]))) (Int.toNat b) ((at' c.2 b)++([(a,d)]))))))))))))
def oG (U:Nat) (e:An) (a:dM) (b c f:Int):V1 (fY):=
 if b=c then(qK e a b c f (true))else(Option.bind (oK U ((a.1,a.2)) b c) λd=>(qK e a b c f (d)))
theorem aal:aU prog 83:=call83
theorem CB (U:Nat) {a:An} {G:dM} {m n d:Int} (J K L H D:V0) (E:e_) (r:fY) (h:oG U a G m n d=some r):
  Bp prog 83 #[Value.agg #[vI (a.1),J,K,L,vB (a.2.2.2.2.1),vB (a.2.2.2.2.2)],Value.agg #[H,D],vI (m),vI (n),vI (d)] [Ar bI.raw D E,fE bO E G.2] [Sl aL J a.2.1,Sl aL K a.2.2.1,Sl aL L a.2.2.2.1,Sl aL H G.1] (λx:e_=>Value.tuple #[]) (λx l=>Ar bI.raw D x::fE bO x r::l):=by
 let ae:=Value.agg #[vI (m),vI (d)];let ad:=Value.agg #[vI (n),vI (d)];refine Bp.of (vs:=[Value.agg #[vI (a.1),J,K,L,vB (a.2.2.2.2.1),vB (a.2.2.2.2.2)],Value.agg #[H,D],vI (m),vI (n),vI (d)]) func83 Z ntmps83 Z λc=>?_;refine aP<|aI (aN.box (cs:=[vI (a.1),J,K,L,vB (a.2.2.2.2.1),vB (a.2.2.2.2.2)]) Z Z) Z λb1=>aI (aN.box (cs:=[H,D]) Z Z) Z λb2=>aM<|aK<|aK<|lT (B:=Unit) (λI=>qK a G m n d I=some r) (λI b5=>[(2,vI (m)),(3,vI (n)),(4,vI (d)),(5,vP b1),(6,vP b2),(20,vB (I))]) (λI b5=>[bH b2 [H,D] 28,bH b1 [vI (a.1),J,K,L,vB (a.2.2.2.2.1),vB (a.2.2.2.2.2)] 24,Ar bI.raw D E,fE bO E G.2]) (λI b5=>[Sl aL J a.2.1,Sl aL K a.2.2.1,Sl aL L a.2.2.2.1,Sl aL H G.1]) ?_ ?_
 .refine aR<|aA Z<|aA Z<|bZ Z<|aA Z ?_;refine GN h Z (λ_ h=>?_) λ_ h=>?_
  .refine aQ Z<|aQ Z<|aQ Z<|aQ Z<|gE Z<|aM ?_;exact j_ (true) () h SF Z
  refine bA Z (fZ 0 Z Z Z Z) Z<|iP Z<|iP Z<|fP h λaf ac h=>BI Z (zBk adX (No U H D (List.zip E G.2) af ac) Z (aF.cons (Dw Z) (aF.cons (cC (i:=2) (j:=3) Z Z bX) .nil))) Z λau=>jD Z<|aM ?_;exact j_ (af) () h SF Z
 intro I b5 h;refine Ca h Z (λ_ h=>?_) λ_ h=>?_
 .refine aT<|aJ ?_;cases h;exact HZ (E) Z Z .ret (.inl Z) (aX.ix [2,3] Z Z) aF.nil
 refine cQ<|aP<|aA Z<|aA Z ?_;refine aB (El (r:=Value.agg #[vI (n),vI (d)]) Z Z (by intro w;simp[Instr.build,Instr.fill,cY,cI,cD,cZ,c_,cJ,dU])) Z ?_;refine aA Z<|aA Z ?_;refine aB (El (r:=Value.agg #[vI (m),vI (d)]) Z Z (by intro w;simp[Instr.build,Instr.fill,cY,cI,cD,cZ,c_,cJ,dU])) Z ?_;refine aI (aN.alloc (cs:=Uj) Z Z) Z λb7=>aI (aN.alloc (cs:=Uj) Z Z) Z λb8=>bQ 1 (vs:=[vI (n),vI (d)]) Z Z Z Z Z Z<|bQ 0 (vs:=[vI (m),vI (d)]) Z Z Z Z Z Z<|aM<|aK<|aP<|bT Z<|dO 3 Z<|aM ?_;refine Ca h Z (λ_ h=>?_) λ_ h=>?_
 .refine aK ?_;refine yP [0,1,0,0,8,0,32,0,224,480,1016,2047,4095] 11 mixedOrders ?_;refine cN Z<|gW 2 Z<|bD Z<|nP 1 Z<|zBl Z Z Z (b_ (e:=bO) ([((n,d))]) [(0,ad)] Z Z Z Z (Is (vI (n)) (vI (d))) Z Z Z) Z (λan=>(pB [([3],[])] Z)) λan=>jL Z (cV Z Z Z Z Z)<|bK Z (aX.cons 3 Z .nil) .nil (eB 0 Z Z Z Z Z) (aO.h (aX.ix [2] Z Z) .nil aO.z)<|jL Z (iO Z)<|dV h λt h=>bJ (dQ 6 Z) λM=>?_;refine bK Z (aX.cons 5 Z .nil) .nil (sH 0 Z Z Z Z Z t.1 (by have y:=t.2;have A:=M;(try simp only[zA2]at y);(try simp only[zA2]at A);(try simp only[zA2]);omega)) (aO.h (aX.ix [4] Z Z) .nil aO.z) ?_;refine bJ (dQ 6 Z) λN=>bK Z (aX.cons 5 Z .nil) .nil (jT 0 Z Z N Z Z t) (aO.h (aX.ix [4] Z Z) .nil aO.z)<|dV h λaj h=>zBl Z Z Z (fU 0 bX Z Z Z (aG.row (j:=6) Z bX t.1 t.2) Z Z Z Z aj Z) Z (λag=>(pB [([3],[])] Z)) λag=>bU 11 Z Z<|dV h λu h=>aB (cA Z Z (cC (i:=5) (j:=6) Z Z bX) Z Z u) Z<|bG (Know.one ((bP (aG.res 0 Z) bX))) λX=>cF (Aw (k:=m) 6 0 Z Z Z u) ?_;refine tU 4 5 ⟨u.1,by first|exact u.2|simpa using u.2⟩ Z Z Z Z Z (by simp) X Z ?_;refine aM<|aK ?_;refine yP [0,1,0,0,8,0,32,0,224,480,1016,2047,4095] 11 mixedOrders ?_;refine cN Z<|gW 2 Z<|bD Z<|nP 0 Z<|zBl Z Z Z (b_ (e:=bO) ([((m,d))]) [(0,ae)] Z Z Z Z (Is (vI (m)) (vI (d))) Z Z Z) Z (λao=>(pB [([3],[])] Z)) λao=>jL Z (cV Z Z Z Z Z)<|bK Z (aX.cons 3 Z .nil) .nil (eB 0 Z Z Z Z Z) (aO.h (aX.ix [2] Z Z) .nil aO.z)<|jL Z (iO Z)<|dV h λp h=>bJ (dQ 6 Z) λO=>?_;refine bK Z (aX.cons 5 Z .nil) .nil (sH 0 Z Z Z Z Z p.1 (by have y:=p.2;have A:=O;(try simp only[zA2]at y);(try simp only[zA2]at A);(try simp only[zA2]);omega)) (aO.h (aX.ix [4] Z Z) .nil aO.z) ?_;refine bJ (dQ 6 Z) λP=>bK Z (aX.cons 5 Z .nil) .nil (jT 0 Z Z P Z Z p) (aO.h (aX.ix [4] Z Z) .nil aO.z)<|dV h λak h=>zBl Z Z Z (fU 0 bX Z Z Z (aG.row (j:=6) Z bX p.1 (by first|exact p.2|simpa using p.2)) Z Z Z Z ak Z) Z (λah=>(pB [([3],[])] Z)) λah=>?_;refine bU 11 Z Z<|dV h λv h=>aB (cA Z Z (cC (i:=5) (j:=6) Z Z bX) Z Z v) Z<|bG (Know.one ((bP (aG.res 0 Z) bX))) λY=>cF (Aw (k:=n) 6 0 Z Z Z v) ?_;refine tU 4 5 ⟨v.1,by first|exact v.2|simpa using v.2⟩ Z Z Z Z Z (by simp) Y Z ?_;refine aM<|aT<|aJ ?_;cases h;exact HZ (List.set (List.set E (Int.toNat m) ag) (Int.toNat n) ah) Z Z .ret (.inl Z) (aX.ix [4,5] Z Z) aF.nil
 refine cQ<|dV h λq h=>dV h λC h=>dV h λF h=>dV h λal h=>dV h λam h=>dV h λf h=>dV h λg h=>Gl [0,1,0,0,8,0,0,64,0,448,960,0,2048,8128,0,16384,0,114688,245760,0,524288,2097088,4194247,8388551,16777215,33554431] 24 [[0,1,2,3,4,5,6,7,8,9,10,11,14,15,16,17,18,19,12,13,20,21,22,23,24,25],[0,1,2,3,4,5,6,7,8,9,10,11,14,15,16,17,18,19,12,20,13,21,22,23,24,25],[0,1,2,3,4,5,6,7,8,9,10,11,14,15,16,17,18,19,20,12,13,21,22,23,24,25]] mixedOrders (by decide +kernel) (by decide +kernel) ?_;intro o ho;simp only[zAo,zB8,or_false]at ho;rcases ho with rfl|rfl|rfl
 all_goals
  iterate 24 first
   |refine bK (i:=0) Z .nil .nil (cV Z Z Z Z Z) aO.z ?_
   |refine bK (i:=1) Z (aX.cons 2 Z .nil) .nil (eB 0 Z Z Z Z Z) aO.z ?_
   |refine bK (i:=2) Z .nil .nil (iO Z) aO.z ?_
   |refine bK (i:=3) Z .nil .nil (cV Z Z Z Z Z) aO.z ?_
   |refine bK (i:=4) Z (aX.cons 2 Z .nil) .nil (eB 0 Z Z Z Z Z) aO.z ?_
   |refine bK (i:=5) Z .nil .nil (iO Z) aO.z ?_
   |refine bK (i:=6) Z .nil .nil (cV Z Z Z Z Z) aO.z ?_
   |refine bK (i:=7) Z (aX.cons 2 Z .nil) .nil (eB 0 Z Z Z Z Z) aO.z ?_
   |refine bK (i:=8) Z .nil .nil (iO Z) aO.z ?_
   |refine bJ (dQ 5 Z) λQ=>?_
    refine bK (i:=9) Z (aX.cons 4 Z .nil) .nil (sH 0 Z Z Z Z Z q.1 (by have y:=q.2;have A:=Q;(try simp only[zA2]at y);(try simp only[zA2]at A);(try simp only[zA2]);omega)) aO.z ?_
   |refine bJ (dQ 5 Z) λR=>?_
    refine bK (i:=10) Z (aX.cons 4 Z .nil) .nil (jT 0 Z Z R Z Z q) aO.z ?_
   |refine bK (i:=11) Z (aX.cons 1 Z .nil) .nil (fZ 0 Z Z Z Z) aO.z ?_
   |refine zBl (i:=12) Z Z Z (b_ (e:=bO) ([((n,d))]) [(0,ad)] Z Z Z Z (Is (vI (n)) (vI (d))) Z Z Z) Z (λap=>(by first|exact uT.h (aX.ix [1] Z Z) .nil (pB [([5],[]),([5],[]),([3],[]),([5],[]),([5],[]),([3],[]),([3],[]),([3],[])] Z)|exact uT.h (aX.ix [2] Z Z) .nil (pB [([6],[]),([6],[]),([4],[]),([6],[]),([6],[]),([4],[]),([4],[]),([4],[])] Z))) λap=>?_
   |first
     |refine zBl (i:=13) Z Z Z (pA 6 bX Z Z Z (bP (aG.res 0 Z) bX) Z Z Z Z q F Z) Z (λs=>(pB [([1],[]),([5],[]),([5],[]),([3],[]),([3],[]),([3],[])] Z)) λs=>?_
     |refine zBl (i:=13) Z Z Z (pA 7 bX Z Z Z (bP (aG.res 1 Z) bX) Z Z Z Z q F Z) Z (λs=>(pB [([2],[]),([6],[]),([6],[]),([4],[]),([4],[]),([4],[])] Z)) λs=>?_
     |refine zBl (i:=13) Z Z Z (pA 7 bX Z Z Z (bP (aG.res 0 Z) bX) Z Z Z Z q F Z) Z (λs=>(pB [([2],[]),([6],[]),([6],[]),([4],[]),([4],[]),([4],[])] Z)) λs=>?_
   |refine bK (i:=14) Z .nil .nil (cV Z Z Z Z Z) aO.z ?_
   |refine bK (i:=15) Z (aX.cons 2 Z .nil) .nil (eB 0 Z Z Z Z Z) aO.z ?_
   |refine bK (i:=16) Z .nil .nil (iO Z) aO.z ?_
   |refine bJ (dQ 5 Z) λS=>?_
    refine bK (i:=17) Z (aX.cons 4 Z .nil) .nil (sH 0 Z Z Z Z Z C.1 (by have y:=C.2;have A:=S;(try simp only[zA2]at y);(try simp only[zA2]at A);(try simp only[zA2]);omega)) aO.z ?_
   |refine bJ (dQ 5 Z) λT=>?_
    refine bK (i:=18) Z (aX.cons 4 Z .nil) .nil (jT 0 Z Z T Z Z C) aO.z ?_
   |refine bK (i:=19) Z (aX.cons 0 Z .nil) .nil (fZ 0 Z Z Z Z) aO.z ?_
   |refine zBl (i:=20) Z Z Z (b_ (e:=bO) ([((m,d))]) [(0,ae)] Z Z Z Z (Is (vI (m)) (vI (d))) Z Z Z) Z (λaq=>(by first|exact uT.b Z (pB [([6],[]),([6],[]),([4],[]),([3],[]),([6],[]),([6],[]),([4],[]),([4],[]),([4],[])] Z)|exact uT.b Z (pB [([5],[]),([5],[]),([3],[]),([2],[]),([5],[]),([5],[]),([3],[]),([3],[]),([3],[])] Z))) λaq=>?_
   |refine zBl (i:=21) Z Z Z (KF (j:=m) 7 bX Z Z Z (by first|exact bP (aG.res 0 Z) bX|exact bP (aG.res 1 Z) bX) Z Z Z Z C al Z am) Z (λai=>(pB [([4],[]),([4],[])] Z)) λai=>?_
   |refine bJ (dQ 7 Z) λV=>?_
    refine bK (i:=22) Z (aX.cons 6 Z .nil) .nil (sH 0 Z Z Z Z Z f.1 (by have y:=f.2;have A:=V;(try simp only[zA2]at y);(try simp only[zA2]at A);(try simp only[zA2]);omega)) (Ow Z) ?_
   |refine bJ (Pn (k:=m) (j:=n) 7 Z (by omega) ⟨f.1,by first|exact f.2|simpa using f.2⟩) λaa=>?_
    refine Ce (i:=23) Z Z Z (Ny 6 7 ⟨f.1,by first|exact f.2|simpa using f.2⟩ Z Z Z Z (by simp) aa Z) (λar=>(pB [([4],[])] Z)) λar=>?_
  refine bU 24 Z Z<|bG (dQ 7 Z) λW=>?_;refine aB (sH 6 Z Z Z Z Z g.1 (by have y:=g.2;have A:=W;(try simp only[zA2]at y);(try simp only[zA2]at A);(try simp only[zA2]);omega)) Z ?_;refine bG (Fh 7 (k:=n) Z ⟨g.1,by first|exact g.2|simpa using g.2⟩) λab=>?_;refine tU 6 7 ⟨g.1,by first|exact g.2|simpa using g.2⟩ Z Z Z Z Z (by simp) ab Z ?_;refine eW ?_;cases h;exact HZ (List.set (List.set E (Int.toNat m) s) (Int.toNat n) ai) Z Z .normal (.inr Z) (aX.ix [6,7] Z Z) aF.nil
def pR (b:Int) (a:aW):V1 vW:=
 some ((a,(List.replicate (Int.toNat (wI .i64 ((1:Int)+b))) ([]:gV))))
def uD (a:Di) (c:(Int×aW)->V1 vW) (b:Int):V1 vW:=
 ck ((a.2.length:Int)+(List.length ([b]):Int)<=1099511627) (c ((wI .i64 (a.1+(1:Int))),(a.2++[b])))
def mJ (b:jF->V1 vW) (a:gO):V1 vW:=
 b (a.1,(wI .i64 (a.2+(1:Int))))
def mK (b:Di) (d:(Int×aW)->V1 vW) (a:gO) (c:jF->V1 vW):V1 vW:=
 if a.2<b.1 then(ck (0<=a.2/\a.2<(b.2.length:Int)) (if(at' b.2 a.2)=a.1 then(ck ((256:Int)≠0) (mJ c ((Int.tmod (wI .i64 (a.1+(1:Int))) (256:Int)),(-1:Int))))else(mJ c (a.1,a.2))))else(uD b d (a.1))
def kN (U:Nat) (f:An) (e:Int) (a:Di) (b:(Int×aW)->V1 vW):V1 vW:=
 if a.1<(wI .i64 ((1:Int)+e))then(Option.bind (uK U f.2.2.2.1 a.1) λc=>(Option.bind (gM U c (256:Int)) λd=>(bN (mK a b) U (d,(0:Int)))))else(pR e (a.2))
def qN (U:Nat) (b:An) (c:Int):V1 vW:=
 Option.bind (gM U (wI .i64 (b.1 - (1:Int))) c) λa=>(ck (0<=(wI .i64 ((1:Int)+a))/\(wI .i64 ((1:Int)+a))<=1099511627) (bN (kN U b a) U ((0:Int),([]:aW))))
theorem ahq:aU prog 84:=call84
theorem GY (U:Nat) {k:An} {p1:Int} (R S Q:V0) (r:Dh) (h:qN U k p1=some r):
  a_ prog 84 #[Value.agg #[vI (k.1),R,S,Q,vB (k.2.2.2.2.1),vB (k.2.2.2.2.2)],vI (p1)] [Sl aL R k.2.1,Sl aL S k.2.2.1,Sl aL Q k.2.2.2.1] (λx:V0×V0×V6 V0=>Value.agg #[x.1,x.2.1]) (λx l=>Ar dW x.1 r.1::Ar bI.raw x.2.1 x.2.2::fE bO x.2.2 r.2::l) (λ_ l=>l):=by
 refine a_.of func84 Z ntmps84 Z λc=>aP<|aI (aN.box (cs:=[vI (k.1),R,S,Q,vB (k.2.2.2.2.1),vB (k.2.2.2.2.2)]) Z Z) Z λF=>let t:=bH F [vI (k.1),R,S,Q,vB (k.2.2.2.2.1),vB (k.2.2.2.2.2)] 24;aI (aN.alloc (cs:=[eV,eV]) Z Z) Z λE=>let s:=bH E [eV,eV] 28;aM<|aP<|bT Z<|dO 1 Z<|aB (vZ Z Z) Z<|aA Z<|fP h λP w4 h=>let p:=(wI .i64 ((1:Int)+P));let C:=(Int.toNat p);let y:=(List.replicate C (eV));let o:=fE bO y (List.replicate C ([]:gV));aI (zBk Hc (jZ U P w4) Z .nil) Z λx5=>cU Z<|Q5 Z<|Q6 Z<|dV h λj6 h=>cF (yJ bO C)<|aI (tZ (e:=bI.raw) (eV) Z Z Z Z j6 Z Z Z) Z λv=>let q:=Ar bI.raw v y;bG (AA (cC (i:=0) (j:=1) Z Z bX)) λT=>?_
 refine aB (Ps (r:=Value.agg #[eV,v]) Z (by intro w;simp[Instr.build,Instr.fill,cY,cI,cD,cZ,c_,cJ,dU,f_ T])) Z ?_;refine aI (aN.alloc (cs:=[eV,eV]) Z Z) Z λu=>bG (AA (cC (i:=1) (j:=2) Z Z bX)) λJ=>bQ 0 (vs:=[eV,v]) Z Z (eJ Z (eJ J Z)) Z Z Z<|aM<|aK<|Ez (B:=V0) (λn=>pR P n=some r) (λn m=>[(4,vP E),(6,vP u)]) (λn m=>[bH u [m,v] 28,q,o,s,Ar dW m n]) ?_ ?_
 .refine Q4 Z<|aS<|cF (fK dW)<|gC (B:=V0) (kN U k P) (λa g=>[(2,vP F),(4,vP E),(5,vI p),(6,vP u),(7,vI (a.1))]) (λa g=>[bH u [g,v] 28,q,o,s,t,Ar dW g a.2]) ((0:Int),([]:aW)) (eV) h SF (aX.ix [1,2,3,4,5,0] Z Z) ?_;intro X a g h;let D:=Ar dW g a.2;let A:=bH u [g,v] 28;let z:=(bN (kN U k P) X)
  refine aK<|Q6 Z<|aA Z<|dD Z<|aM<|eI h Z (λh=>?_) λh=>?_
  .refine cQ<|aK<|aS<|aP<|bT Z<|dO 4 Z<|aA Z<|fP h λaa ac h=>aI (zBk Mc (CI U Q aa ac) Z (jS [2] Z)) Z λaf=>fP h λO ad h=>aI (zBk Hc (jZ U O ad) Z .nil) Z λag=>Q5 Z<|aK<|iA (λb=>uD a z b=some r) (λb G=>[(2,vP F),(4,vP E),(5,vI p),(6,vP u),(7,vI (a.1)),(8,vI (b))]) (λb G=>[A,q,o,s,t,D]) ?_ ?_
   .refine Q4 Z<|aS<|gC (mK a z) (λd H=>[(2,vP F),(4,vP E),(5,vI p),(6,vP u),(7,vI (a.1)),(8,vI (d.1)),(9,vI (d.2))]) (λd H=>[A,q,o,s,t,D]) (O,(0:Int)) () h SF (aX.refl _) ?_;intro Y d H h;refine aK<|Q6 Z<|aA Z<|dD Z<|aM<|eI h Z (λh=>?_) λh=>?_
    .refine cQ<|aK<|iA (λf=>mJ (bN (mK a z) Y) f=some r) (λf I=>[(2,vP F),(4,vP E),(5,vI p),(6,vP u),(7,vI (a.1)),(8,vI (f.1)),(9,vI (f.2))]) (λf I=>[A,q,o,s,t,D]) ?_ ?_
     .refine aS<|aP<|bT Z<|dO 0 Z<|aA Z<|dV h λN h=>aB (bR Z Z (bP (aG.res 5 Z) fG) Z Z N) Z<|aB (cK Z (bP (aG.res 5 Z) fG) Z Z Z gF N) Z<|aA Z<|bZ Z<|aM<|eI h Z (λh=>?_) λh=>?_
      .exact aR<|aA Z<|cU Z<|dV h λW h=>aB (Sa Z Z W) Z<|aC Z<|aC Z<|eW<|m_<|j_ ((Int.tmod (wI .i64 (d.1+(1:Int))) (256:Int)),(-1:Int)) () h SF Z
      exact eP<|m_<|j_ (d.1,d.2) () h SF Z
     intro f I h;unfold mJ at h;exact aR<|aA Z<|cU Z<|Q5 Z<|BD (f.1,(wI .i64 (f.2+(1:Int)))) () h SF Z
    exact fO<|j_ (d.1) () h SF Z
   intro b G h;exact aR<|bT Z<|dO 0 Z<|aA Z<|aI (b_ (e:=dW) ([b]) [(0,vI (b))] Z Z Z Z (gY (vI (b)) Z) Z Z Z) Z λae=>dV h λV h=>aI (fU 6 fG Z Z Z (bP (aG.res 0 Z) fG) Z Z Z Z V Z) Z λab=>bT Z<|bG (Know.one ((bP (aG.res 6 Z) fG))) λM=>fS 1 Z Z M Z Z Z<|eW<|m_<|aR<|aA Z<|cU Z<|Q5 Z<|iH ((wI .i64 (a.1+(1:Int))),(a.2++[b])) (ab) h SF (aX.ix [1,2,3,4,5,6] Z Z) (aF.refl _ _)
  exact fO<|cT (a.2) (g) h SF (aX.ix [0,1,2,3,5] Z Z) (aF.refl _ _)
 intro n m h;unfold pR at h;refine aP<|dL 0 Z<|bG (Know.one ((bP (aG.res 4 Z) fG))) λK=>bG (AA (cC (i:=1) (j:=2) Z Z bX)) λL=>bQ 3 (vs:=[m,v]) Z Z (eJ K (eJ L Z)) Z Z Z<|aM<|aT ?_;cases h;exact fD (m,v,y) Z Z (RV.cell 3 Z Z Z Z) (aX.ix [4,1,2] Z Z) aF.nil
def qJ (b:Dh) (a:fY):V1 vW:=
 some ((b.1,a))
def v_ (U:Nat) (b:An) (i:Dh) (a:Int×fY) (c:(Int×fY)->V1 vW):V1 vW:=
 if a.1<(a.2.length:Int)then(Option.bind (uK U b.2.1 (wI .i64 (a.1 - (1:Int)))) λd=>(Option.bind (gM U d a.1) λe=>(Option.bind (uK U b.2.2.1 (wI .i64 (a.1 - (1:Int)))) λf=>(Option.bind (gM U f (15:Int)) λg=>(Option.bind (oG U ((b.1,b.2.1,b.2.2.1,b.2.2.2.1,b.2.2.2.2.1,b.2.2.2.2.2)) ((i.1,a.2)) e a.1 (wI .i64 ((1:Int)+g))) λh=>(c ((wI .i64 (a.1+(1:Int))),h)))))))else(qJ i (a.2))
def oF (U:Nat) (a:An) (c:Int):V1 vW:=
 Option.bind (qN U ((a.1,a.2.1,a.2.2.1,a.2.2.2.1,a.2.2.2.2.1,a.2.2.2.2.2)) c) λb=>(bN (v_ U a b) U ((1:Int),b.2))
theorem aaf:aU prog 19:=call19
theorem Cz (U:Nat) {p0:An} {p1:Int} (n o p:V0) (r:Dh) (h:oF U p0 p1=some r):
  a_ prog 19 #[Value.agg #[vI (p0.1),n,o,p,vB (p0.2.2.2.2.1),vB (p0.2.2.2.2.2)],vI (p1)] [Sl aL n p0.2.1,Sl aL o p0.2.2.1,Sl aL p p0.2.2.2.1] (λx:V0×V0×List V0=>Value.agg #[x.1,x.2.1]) (λx l=>Ar dW x.1 r.1::Ar bI.raw x.2.1 x.2.2::fE bO x.2.2 r.2::l) (λ_ l=>l):=by
 refine a_.of func19 Z ntmps19 Z λc=>?_;refine aP<|aI (aN.box (cs:=[vI (p0.1),n,o,p,vB (p0.2.2.2.2.1),vB (p0.2.2.2.2.2)]) Z Z) Z λR=>let t:=bH R [vI (p0.1),n,o,p,vB (p0.2.2.2.2.1),vB (p0.2.2.2.2.2)] 24;aI (aN.alloc (cs:=[eV,eV]) Z Z) Z λw=>let k:=bH w [eV,eV] 28;aM<|aP<|dL 1 Z<|aA Z<|fP h λu T h=>aI (zBk ahq (GY U n o p u T) Z (jS [0,1,2] Z)) Z λd=>let m:=Ar dW d.1 u.1;aI (aN.alloc (cs:=[eV,eV]) Z Z) Z λy=>let g:=bH y [d.1,d.2.1] 28;bG (Know.one ((bP (aG.res 1 Z) fG))) λA=>bG (AA (cC (i:=2) (j:=3) Z Z bX)) λC=>bQ 0 (vs:=[d.1,d.2.1]) Z Z (eJ A (eJ C Z)) Z Z Z<|aM<|aK<|Ez (B:=e_) (λe=>qJ u e=some r) (λe f=>[(4,vP w),(5,vP y)]) (λe f=>[g,m,Ar bI.raw d.2.1 f,fE bO f e,k]) ?_ ?_
 .refine aP<|aC Z<|aM<|aS<|gC (B:=e_) (v_ U p0 u) (λb a=>[(2,vP R),(4,vP w),(5,vP y),(6,vI (b.1))]) (λb a=>[g,m,Ar bI.raw d.2.1 a,fE bO a b.2,k,t]) ((1:Int),u.2) (d.2.2) h SF (aX.refl _) ?_;intro S b a h;refine aK<|aP<|aA Z<|bT Z<|dO 0 Z<|aB (fN Z (cC (i:=2) (j:=3) Z Z bX) Z) Z<|dD Z<|aM ?_;refine eI h Z (λh=>?_) λh=>?_
  .refine cQ<|aK<|aS ?_;refine yP [0,0,0,4,0,16,60,0,252,0,0,1024,0,4096,15868,32252,65020,131071] 17 mixedOrders ?_;refine nP 5 Z<|nP 0 Z<|cN Z<|gW 5 Z<|bD Z<|jL Z (vZ Z Z)<|fP h λD H h=>zBl Z Z Z (zBk Mc (CI U n D H) Z (jS [0] Z)) Z (λM=>(pB [([0],[]),([5],[])] Z)) λM=>jL Z (iO Z)<|fP h λE I h=>zBl Z Z Z (zBk Hc (jZ U E I) Z .nil) Z (λN=>(pB [([0],[]),([5],[])] Z)) λN=>jL Z (iO Z)<|jL Z (cV Z Z Z Z Z)<|bK Z (aX.cons 5 Z .nil) .nil (eB 0 Z Z Z Z Z) (aO.h (aX.ix [5] Z Z) .nil (aO.h (aX.ix [5] Z Z) .nil aO.z))<|jL Z (iO Z)<|jL Z (vZ Z Z)<|fP h λF J h=>zBl Z Z Z (zBk Mc (CI U o F J) Z (jS [1] Z)) Z (λO=>(pB [([0],[]),([5],[])] Z)) λO=>fP h λG K h=>zBl Z Z Z (zBk Hc (jZ U G K) Z .nil) Z (λP=>(pB [([0],[]),([5],[])] Z)) λP=>jL Z (Br Z Z)<|bU 17 Z Z<|fP h λv L h=>aI (Eg (Min:=[Ar bI.raw d.2.1 a,fE bO a b.2]) (Mr:=[g,m,k,t]) aal (CB U n o p d.1 d.2.1 a v L) Z (aX.ix [2,3,0,1,4,5] Z Z) (aF.cons (dH Z) (aF.cons (yQ Z) (aF.cons (DU Z) (aF.cons (bP (aG.res 1 Z) fG) .nil)))) (λ_ _=>rfl)) Z λQ=>eW<|m_<|aR<|aA Z<|cU Z<|aC Z<|aM ?_;exact iH ((wI .i64 (b.1+(1:Int))),v) (Q) h SF (aX.ix [2,3,0,1,4,5] Z Z) (aF.refl _ _)
  refine fO ?_;exact cT (b.2) (a) h SF (aX.ix [0,1,2,3,4] Z Z) (aF.refl _ _)
 intro e f h;unfold qJ at h;refine aP<|dL 0 Z<|bG (Know.one ((bP (aG.res 1 Z) fG))) λq=>bG (AA (cC (i:=2) (j:=3) Z Z bX)) λs=>bQ 4 (vs:=[d.1,d.2.1]) Z Z (eJ q (eJ s Z)) Z Z Z<|aM<|aT ?_;cases h;exact fD (d.1,d.2.1,f) Z Z (RV.cell 4 Z Z Z Z) (aX.ix [1,2,3] Z Z) aF.nil
def kX (U:Nat) (a:Int):V1 (Int):=
 if a=(0:Int)then(some (32:Int))else(ck (0<=(27:Int)) (ck ((0<=(rW .u32 (wI .u32 ((fF .u32 a (wI .u32 (0 - a)))*(125613361:Int))) (27:Int))/\(rW .u32 (wI .u32 ((fF .u32 a (wI .u32 (0 - a)))*(125613361:Int))) (27:Int))<((32:Nat):Int))/\sS.length=32) (some (wI .i64 (at' sS (rW .u32 (wI .u32 ((fF .u32 a (wI .u32 (0 - a)))*(125613361:Int))) (27:Int)))))))
theorem Wx:aU prog 216:=call216
theorem Ac (U:Nat) {b:Int} (r:Int) (h:kX U b=some r):
  a_ prog 216 #[vU (b)] [Gb 0 (cellsOf Ff sS)] (λx:Unit=>vI (r)) (λx l=>l) (λ_ l=>l):=by
 refine a_.of func216 Z ntmps216 Z λc=>Q4 Z<|aK<|Q6 Z<|bZ Z<|aM<|eI h Z (λh=>?_) λh=>?_
 .refine Q4 Z<|aT<|aJ ?_;cases h;exact mA Z
 refine cQ<|Q6 Z<|aA Z<|aB (VZ Z) Z<|BG Z<|aB (En Z Z) Z<|dV h λd h=>aB (N_ Z Z d) Z<|dV h λa h=>aB (RZ Z Z Z Z Z a.1) Z<|aB (XR (e:=Ff) Z (dH Z) Z Z Z Z a) Z<|aB (Uy Z Z Z) Z<|Q5 Z<|aT ?_;cases h;exact mA Z
def kV (a:Unit):V1 V4:=
 some (true)
def iJ (U:Nat) (d:aW) (e a:Int) (c:(Int)->V1 V4):V1 V4:=
 if a≠(0:Int)then(Option.bind (kX U a) λb=>(ck (0<=b/\b<(d.length:Int)) (if(fF .u32 (at' d b) e)≠(0:Int)then(some (false))else(c (fF .u32 a (wI .u32 (a - (1:Int))))))))else(kV (()))
def nJ (U:Nat) (c:aW) (a:Int) (b:Unit):V1 V4:=
 bN (iJ U c a) U (a)
def i_ (U:Nat) (a:aW) (b:Int):V1 V4:=
 nJ U a b (())
theorem ael:aU prog 211:=call211
theorem Cy (U:Nat) {n:aW} {e:Int} (k:V0) (r:Bool) (h:i_ U n e=some r):
  a_ prog 211 #[k,vU (e)] [Sl Eh k n,Gb 0 (cellsOf Ff sS)] (λx:Unit=>vB (r)) (λx l=>l) (λ_ l=>l):=by
 refine a_.of func211 Z ntmps211 Z λc=>?_;unfold i_ at h;refine cF RQ<|aP<|bG (Know.one ((dH Z))) λy=>?_;refine aI (aN.box (cs:=[k]) Z (by rw[f_ y])) Z λD=>?_;refine aI (aN.box (cs:=[vU (e)]) Z Z) Z λE=>aI (aN.alloc (cs:=[vB (false)]) Z Z) Z λF=>let j:=bH F [vB (false)] 4;aM<|aK<|Up (A:=Unit) (B:=rR) (λm f=>⟨16,MH f⟩) (λm=>kV m=some r) (λm f=>[(4,vP F)]) (λm f=>[j,Pf f]) (λm f=>[Sl Eh k n,Gb 0 (cellsOf Ff sS)]) ?_ ?_
 .refine aP<|dO 1 Z<|vY (A:=Unit) (B:=Nat) (vs:=[vU (e)]) (λb=>nJ U n e b=some r) (λb a=>Value.func (.func 215) #[] #[vP a]) (λb a=>[bH a [vU (e)] 55,j,bH E [vU (e)] 55,bH D [k] 88,Pf ([]:rR)]) (λb a=>[Sl Eh k n,Gb 0 (cellsOf Ff sS)]) (nY.fn (show aU prog 179 from call179) Z) func179 Z ntmps179 Z Z ?_ ?_
  .refine aP<|aI (aN.box (cs:=[vU (e)]) Z Z) Z λp=>aC Z<|aM<|aP<|aB (uB (cs:=[.tmp 1]) (vs:=[vP p]) Z) Z<|aC Z<|aM<|aT ?_;exact jN () (p) h (.inl Z) (CO.r1 Z (RV.tmp Z)) Z (aX.refl _) (aF.refl _ _)
  intro b a h;unfold nJ at h;refine aM<|aS<|HY (i:=4) (cs:=[vP a]) ([]:rR) Z (show aU prog 215 from call215) Z func215 Z ntmps215 Z λt v w q=>let g:=(List.cons v ([]:rR));aS<|gC (iJ U n e) (λd o=>[(0,Ag t),(1,vP a)]) (λd o=>[Lp t w LoopState.ready none,bH a [vU (d)] 55,j,bH E [vU (e)] 55,bH D [k] 88,Pf g]) (e) () h SF (aX.refl _) ?_
  intro G d o h;refine aK<|aP<|dO 1 Z<|oZ Z<|aM ?_;refine eI h Z (λh=>?_) λh=>?_
  .refine cQ<|aK<|aS<|aP<|aA Z<|dO 1 Z<|fP h λu C h=>aI (zBk Wx (Ac U u C) Z (jS [1] Z)) Z λH=>Rq (us:=[vI (u)]) (i:=0) q Z Z Z Z Z Z<|aR<|aC Z<|aM<|VV (i:=0) Z<|aS<|aK ?_;refine yP [0,0,3,7,0,31,63] 5 mixedOrders ?_;refine gW 4 Z<|bD Z<|dV h λs h=>bK Z .nil (nD 0 Z) (bR Z Z (dH Z) Z Z s) aO.z<|bK Z .nil (nD 0 Z) (cK Z (dH Z) Z Z Z Jo s) aO.z<|gW 3 Z<|bU 5 Z Z<|BG Z<|oZ Z<|aM ?_;refine eI h Z (λh=>?_) λh=>?_
   .refine aP<|fS 2 Z Z Z Z Z Z<|aM<|aT<|bW<|Zx (i:=0) Z<|aB (sI Z) Z<|aM<|KX Z<|aT<|bW<|aJ<|aJ<|bW<|adw (i:=0) (.inl Z) Z (CO.r0 Z)<|bW<|aJ<|tV (i:=5) (Ds:=g) (.inl Z) Z ?_;cases h;exact fD () Z Z (RG 2 Z Z Z Z) .nil aF.nil
   refine eP<|Zs<|LD (i:=0) Z<|aB (sI Z) Z<|aM<|Gi Z<|eP<|m_<|aR<|dO 1 Z<|dO 1 Z<|aB (vZ Z Z) Z<|BG Z<|fS 1 Z Z Z Z Z Z<|aM ?_;exact BD (fF .u32 d (wI .u32 (d - (1:Int)))) () h SF Z
  refine tB<|fT<|fT<|Aj<|Zw (i:=0) (.inr Z) Z (CO.r0 Z)<|m_ ?_;exact KY () g Z h SF (aX.ix [2,5] Z Z) (aF.refl _ _)
 intro m f h;unfold kV at h;refine aP<|fS 0 Z Z Z Z Z Z<|aM<|aT<|tV (i:=1) (Ds:=(f)) (.inl Z) Z ?_;cases h;exact fD () Z Z (RG 0 Z Z Z Z) .nil aF.nil
def mT (U:Nat) (d:aW) (b e a:Int) (c:V4):V1 V4:=
 if c=true then(some (false))else(if b=(1:Int)then(some (decide ((fF .u32 a (wI .u32 (a - (1:Int))))=(0:Int))))else(if b=(2:Int)then(Option.bind (i_ U d a) λf=>(some (f)))else(if b=(4:Int)then(some (decide (a=e)))else(some (true)))))
def gU (U:Nat) (c:aW) (d b a:Int):V1 V4:=
 if a=(0:Int)then(mT U c d b a (true))else(mT U c d b a (decide ((xH .u32 a b)≠(0:Int))))
theorem Ws:aU prog 176:=call176
theorem Aa (U:Nat) {p0:aW} {p1 p2 p3:Int} (b:V0) (r:V4) (h:gU U p0 p1 p2 p3=some r):
  a_ prog 176 #[b,vI (p1),vU (p2),vU (p3)] [Sl Eh b p0,Gb 0 (cellsOf Ff sS)] (λx:Unit=>vB (r)) (λx l=>l) (λ_ l=>l):=by
 refine a_.of func176 Z ntmps176 Z λc=>Q4 Z<|aK<|aK<|iA (λa=>mT U p0 p1 p2 p3 a=some r) (λa d=>[(0,b),(1,vI (p1)),(2,vU (p2)),(3,vU (p3)),(16,vB (a))]) (λa d=>[]) ?_ ?_
 .refine aR<|aA Z<|bZ Z<|aA Z<|GN h Z (λ_ h=>?_) λ_ h=>?_
  .exact aQ Z<|aQ Z<|aQ Z<|aQ Z<|gE Z<|aM<|j_ (true) () h SF Z
  exact iP Z<|iP Z<|bA Z (LQ Z Z) Z<|bA Z (Kl Z Z) Z<|jD Z<|aM<|j_ (decide ((xH .u32 p3 p2)≠(0:Int))) () h SF Z
 intro a d h;refine Ca h Z (λ_ h=>?_) λ_ h=>?_
 .refine Q4 Z<|aT<|aJ ?_;cases h;exact mA Z
 refine cQ<|aK<|Q6 Z<|aM<|aS<|aP<|bZ Z<|Q5 Z<|eI h Z (λh=>?_) λh=>?_
 .refine Q6 Z<|aA Z<|aB (vZ Z Z) Z<|BG Z<|bZ Z<|Q5 Z<|aT<|bW<|aJ ?_;cases h;exact mA Z
 refine aP<|bZ Z<|Q5 Z<|eI h Z (λh=>?_) λh=>?_
 .refine Q6 Z<|aA Z<|fP h λe f h=>aI (zBk ael (Cy U b e f) Z (jS [0,1] Z)) Z λg=>Q5 Z<|aT<|bW<|aJ ?_;cases h;exact mA Z
 refine aP<|bZ Z<|Q5 Z<|eI h Z (λh=>?_) λh=>?_
 .refine Q6 Z<|aA Z<|bZ Z<|Q5 Z<|aT<|bW<|aJ ?_;cases h;exact mA Z
 refine eP<|m_<|Q4 Z<|aT ?_;cases h;exact mA Z
def kM (a:Int):V1 (Int):=
 some (a)
def iQ (a:gO) (b:jF->V1 (Int)) (c:Int):V1 (Int):=
 b ((fF .u32 a.1 (wI .u32 (a.1 - (1:Int)))),c)
def cP (U:Nat) (d:aW) (a:gO) (c:jF->V1 (Int)):V1 (Int):=
 if a.1≠(0:Int)then(Option.bind (kX U a.1) λb=>(ck (0<=b/\b<(d.length:Int)) (if(fF .u32 (at' d b) a.2)=(0:Int)then(ck (0<=b) (iQ a c (Nz .u32 a.2 (Dq .u32 (1:Int) b))))else(iQ a c (a.2)))))else(kM (a.2))
def mU (U:Nat) (c:aW) (b:Int) (a:Unit):V1 (Int):=
 bN (cP U c) U (b,(0:Int))
def gJ (U:Nat) (c:aW) (b d a:Int):V1 (Int):=
 if b=(1:Int)then(some (fF .u32 a (wI .u32 (0 - a))))else(if b=(2:Int)then(mU U c a (()))else(if b=(4:Int)then(some (d))else(some (a))))
def d_ (U:Nat) (b:aW) (c a d:Int):V1 (Int):=
 if(fF .u32 d a)=(0:Int)then(gJ U b c a (fF .u32 a (wI .u32 (0 - a))))else(gJ U b c a (fF .u32 d a))
theorem Wk:aU prog 130:=call130
theorem Ab (U:Nat) {p0:aW} {p1 p2 p3:Int} (k:V0) (r:Int) (h:d_ U p0 p1 p2 p3=some r):
  a_ prog 130 #[k,vI (p1),vU (p2),vU (p3)] [Sl Eh k p0,Gb 0 (cellsOf Ff sS)] (λx:Unit=>vU (r)) (λx l=>l) (λ_ l=>l):=by
 let o:=Gb 0 (cellsOf Ff sS);refine a_.of func130 Z ntmps130 Z λc=>?_;refine cF RQ<|aP<|bG (Know.one ((dH Z))) λG=>?_;refine aI (aN.box (cs:=[k]) Z (by rw[f_ G])) Z λq=>?_;refine aC Z<|aM<|aP<|aA Z<|aA Z<|BG Z<|aC Z<|aM<|aK<|Up (A:=Int) (B:=Unit) (λg D=>⟨48,MH ([]:rR)⟩) (λg=>gJ U p0 p1 p2 g=some r) (λg D=>[(1,vI (p1)),(2,vU (p2)),(3,vU (g)),(4,vP q),(8,vU (0:Int))]) (λg D=>[bH q [k] 88,Pf ([]:rR)]) (λg D=>[Sl Eh k p0,o]) ?_ ?_
 .refine aP<|aA Z<|bZ Z<|aM ?_;refine eI h Z (λh=>?_) λh=>?_
  .refine aR<|aA Z<|aA Z<|aB (VZ Z) Z<|BG Z<|aC Z<|aM ?_;exact KY (fF .u32 p2 (wI .u32 (0 - p2))) () Z h SF (aX.refl _) (aF.refl _ _)
  refine cQ ?_;exact KY (fF .u32 p3 p2) () Z h SF (aX.refl _) (aF.refl _ _)
 intro g D h;refine aK<|aP<|aA Z<|aM<|aS<|aP<|bZ Z<|aC Z<|aM ?_;refine eI h Z (λh=>?_) λh=>?_
 .refine aP<|aA Z<|aA Z<|aB (VZ Z) Z<|BG Z<|aC Z<|aM<|aT<|bW<|aJ<|tV (i:=1) (Ds:=([]:rR)) (.inl Z) Z ?_;cases h;exact xT Z
 refine aP<|bZ Z<|aC Z<|aM ?_;refine eI h Z (λh=>?_) λh=>?_
 .refine aP<|aI (aN.alloc (cs:=[vU (0:Int)]) Z Z) Z λv=>fS 0 Z Z Z Z Z Z<|aM<|aK<|Up (A:=Int) (B:=rR) (λd e=>⟨48,MH e⟩) (λd=>kM d=some r) (λd e=>[(9,vP v)]) (λd e=>[bH v [vU (d)] 55,Pf e]) (λd e=>[Sl Eh k p0,o]) ?_ ?_
  .refine aP<|aA Z<|vY (A:=Unit) (B:=Nat) (vs:=[vU (g)]) (λj=>mU U p0 g j=some r) (λj b=>Value.func (.func 215) #[] #[vP b]) (λj b=>[bH b [vU (g)] 55,bH v [vU (0:Int)] 55,bH q [k] 88,Pf ([]:rR)]) (λj b=>[Sl Eh k p0,o]) (nY.fn (show aU prog 179 from call179) Z) func179 Z ntmps179 Z Z ?_ ?_
   .refine aP<|aI (aN.box (cs:=[vU (g)]) Z Z) Z λu=>aC Z<|aM<|aP<|aB (uB (cs:=[.tmp 1]) (vs:=[vP u]) Z) Z<|aC Z<|aM<|aT ?_;exact jN () (u) h (.inl Z) (CO.r1 Z (RV.tmp Z)) Z (aX.refl _) (aF.refl _ _)
   intro j b h;unfold mU at h;refine aM<|aS<|HY (i:=3) (cs:=[vP b]) ([]:rR) Z (show aU prog 215 from call215) Z func215 Z ntmps215 Z λm E F w=>let C:=Lp m F LoopState.ready none;let n:=(List.cons E ([]:rR));aS<|gC (cP U p0) (λa s=>[(0,Ag m),(1,vP b)]) (λa s=>[C,bH b [vU (a.1)] 55,bH v [vU (a.2)] 55,bH q [k] 88,Pf n]) (g,(0:Int)) () h SF (aX.refl _) ?_
   intro I a s h;refine aK<|aP<|dO 1 Z<|oZ Z<|aM ?_;refine eI h Z (λh=>?_) λh=>?_
   .refine cQ<|aK<|iA (λf=>iQ a (bN (cP U p0) I) f=some r) (λf t=>[(0,Ag m),(1,vP b)]) (λf t=>[C,bH b [vU (a.1)] 55,bH v [vU (f)] 55,bH q [k] 88,Pf n]) ?_ ?_
    .refine aS<|aP<|aA Z<|dO 1 Z<|fP h λp J h=>aI (zBk Wx (Ac U p J) Z (jS [1] Z)) Z λK=>Rq (us:=[vI (p)]) (i:=0) w Z Z Z Z Z Z<|aR<|aC Z<|aM<|VV (i:=0) Z<|aS<|aK ?_;refine yP [0,0,3,7,0,31,63] 5 mixedOrders ?_;refine gW 3 Z<|bD Z<|dV h λy h=>bK Z .nil (nD 0 Z) (bR Z Z (dH Z) Z Z y) aO.z<|bK Z .nil (nD 0 Z) (cK Z (dH Z) Z Z Z Jo y) aO.z<|gW 2 Z<|bU 5 Z Z<|BG Z<|bZ Z<|aM ?_;refine eI h Z (λh=>?_) λh=>?_
     .refine yP [0,0,2,7,15] 3 mixedOrders ?_;refine gW 2 Z<|bD Z<|dV h λH h=>jL Z (NZ Z Z H)<|bU 3 Z Z<|aB (ZP Z Z) Z<|fS 2 Z Z Z Z Z Z<|eW<|Zs<|LD (i:=0) Z<|aB (sI Z) Z<|aM<|Gi Z<|eP<|m_ ?_;exact j_ (Nz .u32 a.2 (Dq .u32 (1:Int) p)) () h SF Z
     refine eP<|Zs<|LD (i:=0) Z<|aB (sI Z) Z<|aM<|Gi Z<|eP<|m_ ?_;exact j_ (a.2) () h SF Z
    intro f t h;unfold iQ at h;refine aR<|dO 1 Z<|dO 1 Z<|aB (vZ Z Z) Z<|BG Z<|fS 1 Z Z Z Z Z Z<|aM ?_;exact BD ((fF .u32 a.1 (wI .u32 (a.1 - (1:Int)))),f) () h SF Z
   refine tB<|fT<|fT<|Aj<|Zw (i:=0) (.inr Z) Z (CO.r0 Z)<|m_ ?_;exact KY (a.2) n Z h SF (aX.ix [2,4] Z Z) (aF.refl _ _)
  intro d e h;unfold kM at h;refine aP<|dO 0 Z<|aC Z<|aM<|aT<|bW<|aJ<|tV (i:=1) (Ds:=(e)) (.inl Z) Z ?_;cases h;exact xT Z
 refine aP<|bZ Z<|aC Z<|aM ?_;refine eI h Z (λh=>?_) λh=>?_
 .refine aP<|aA Z<|aC Z<|aM<|aT<|bW<|aJ<|tV (i:=1) (Ds:=([]:rR)) (.inl Z) Z ?_;cases h;exact xT Z
 refine eP<|m_<|aP<|aA Z<|aC Z<|aM<|aT<|tV (i:=1) (Ds:=([]:rR)) (.inl Z) Z ?_;cases h;exact xT Z
end Go.Proofs.YtgciopekomcbfaaGreatDoor
section
set_option maxRecDepth 100000
namespace Go.Gx
open Go Go.Sx Go.Proofs Go.Proofs.YtgciopekomcbfaaGreatDoor
noncomputable section
def ajD (a:V6 GV) (H:GH):OR:=a1 a λb=>ob (aaA H b) λp0=>ob (h_ 1000 p0) λr=>abO r H
def ajC (a:V6 GV) (H:GH):OR:=a2 a λb c=>ob (ajp H b) λp0=>ob (dSc .i64 c) λp1=>ob (oF 1000 p0 p1) λr=>Vp r H
def agm (a:V6 GV) (H:GH):OR:=a4 a λb c d e=>ob (aaD H b) λp0=>ob (dSc .i64 c) λp1=>ob (dSc .u32 d) λp2=>ob (dSc .u32 e) λp3=>ob (gU 1000 p0 p1 p2 p3) λr=>abO r H
def agl (a:V6 GV) (H:GH):OR:=a4 a λb c d e=>ob (aaD H b) λp0=>ob (dSc .i64 c) λp1=>ob (dSc .u32 d) λp2=>ob (dSc .u32 e) λp3=>ob (d_ 1000 p0 p1 p2 p3) λr=>some (.int .u32 r,H)
def aaZ (f:Nat) (a:V6 GV) (H:GH):V1 (GV×GH):=bif Nat.beq f 70 then ajD a H else bif Nat.beq f 19 then ajC a H else bif Nat.beq f 176 then agm a H else bif Nat.beq f 130 then agl a H else none
abbrev gl:Nat->AZ:=glb 0 (cellsOf Ff sS)
def gp:GP:=⟨vX,86,aaZ,aaY 249⟩
section
variable {T:Nat} {w0:fM (gl T)} {w:V2} {ρ:eZ} {H H':GH} {g:GV} {us:V6 GV} {vs:V6 V0}
theorem aeW (h:ajD us H=some (g,H')) (R:gQ w0 ρ H w) (m:qE ρ us vs):lK prog w0 ρ 70 vs w g H':=by
 obtain⟨p,rfl,h⟩:=V_ h;obtain⟨j,c,h⟩:=aE.1 h;obtain⟨r,l,h⟩:=aE.1 h;obtain⟨o,rfl,d⟩:=m.one;obtain⟨e,i,n,rfl,a,b⟩:=Yg R d c;obtain⟨rfl,rfl⟩:=MR h;exact HE PL (AX 1000 (p0:=j) e i n r l) R (zB1.2 ⟨a,zB1.2 ⟨b,λf k=>absurd k zB8⟩⟩) λρ=> .bool _
theorem aeV (h:ajC us H=some (g,H')) (R:gQ w0 ρ H w) (i:qE ρ us vs):lK prog w0 ρ 19 vs w g H':=by
 obtain⟨z,A,rfl,h⟩:=Wa h;obtain⟨o,d,h⟩:=aE.1 h;obtain⟨p,e,h⟩:=aE.1 h;obtain⟨r,v,h⟩:=aE.1 h;obtain⟨x,vs,rfl,j,i⟩:=i.of_cons;obtain⟨y,rfl,k⟩:=i.one;obtain⟨l,m,n,rfl,a,b,c⟩:=aeC R j d;obtain rfl:=Fz k e;obtain⟨q,s,t,rfl,rfl⟩:=Ta h;exact U_ ajs ajt q s t aaf (Cz 1000 (p0:=o) (p1:=p) l m n r v) R (zB1.2 ⟨a,zB1.2 ⟨b,zB1.2 ⟨c,λf u=>absurd u zB8⟩⟩⟩)
theorem abf (h:agm us H=some (g,H')) (R:gQ w0 ρ H w) (a:qE ρ us vs):lK prog w0 ρ 176 vs w g H':=by
 obtain⟨z,A,B,C,rfl,h⟩:=Pv h;obtain⟨m,b,h⟩:=aE.1 h;obtain⟨n,c,h⟩:=aE.1 h;obtain⟨o,d,h⟩:=aE.1 h;obtain⟨p,e,h⟩:=aE.1 h;obtain⟨r,u,h⟩:=aE.1 h;obtain⟨q,vs,rfl,i,a⟩:=a.of_cons;obtain⟨v,vs,rfl,j,a⟩:=a.of_cons;obtain⟨x,vs,rfl,k,a⟩:=a.of_cons;obtain⟨y,rfl,l⟩:=a.one;have s:=Sr R i b;obtain rfl:=Fz j c;obtain rfl:=Fz k d;obtain rfl:=Fz l e;obtain⟨rfl,rfl⟩:=MR h;exact HE Ws (Aa 1000 (p0:=m) (p1:=n) (p2:=o) (p3:=p) q r u) R (zB1.2 ⟨s,zB1.2 ⟨R.glb,λf t=>absurd t zB8⟩⟩) λρ=> .bool _
theorem abe (h:agl us H=some (g,H')) (R:gQ w0 ρ H w) (a:qE ρ us vs):lK prog w0 ρ 130 vs w g H':=by
 obtain⟨z,A,B,C,rfl,h⟩:=Pv h;obtain⟨m,b,h⟩:=aE.1 h;obtain⟨n,c,h⟩:=aE.1 h;obtain⟨o,d,h⟩:=aE.1 h;obtain⟨p,e,h⟩:=aE.1 h;obtain⟨r,u,h⟩:=aE.1 h;obtain⟨q,vs,rfl,i,a⟩:=a.of_cons;obtain⟨v,vs,rfl,j,a⟩:=a.of_cons;obtain⟨x,vs,rfl,k,a⟩:=a.of_cons;obtain⟨y,rfl,l⟩:=a.one;have s:=Sr R i b;obtain rfl:=Fz j c;obtain rfl:=Fz k d;obtain rfl:=Fz l e;cases h;exact HE Wk (Ab 1000 (p0:=m) (p1:=n) (p2:=o) (p3:=p) q r u) R (zB1.2 ⟨s,zB1.2 ⟨R.glb,λf t=>absurd t zB8⟩⟩) λρ=> .int _ _
theorem Qd {f:Nat} (h:aaZ f us H=some (g,H')) (R:gQ w0 ρ H w) (a:qE ρ us vs):lK prog w0 ρ f vs w g H':=by
 unfold aaZ at h;cases b:Nat.beq f 70 with
 |true=>rw[b]at h;rw[zA6 b];exact aeW h R a
 |false=>
 rw[b]at h;cases c:Nat.beq f 19 with
 |true=>rw[c]at h;rw[zA6 c];exact aeV h R a
 |false=>
 rw[c]at h;cases d:Nat.beq f 176 with
 |true=>rw[d]at h;rw[zA6 d];exact abf h R a
 |false=>
 rw[d]at h;cases e:Nat.beq f 130 with
 |true=>rw[e]at h;rw[zA6 e];exact abe h R a
 |false=>
 rw[e]at h;cases h
end
theorem ahN:ajr prog vX=true:=by kernel_rfl
theorem Lu:gA prog vX:=⟨TK,ahM ahN⟩
theorem air {a:AZ} (b:fM a):tR prog b (Od vX 146 f146):=aas Lu mixedOrders func146 call146 (by kernel_rfl)
theorem ahG (a:Array V0) (w:V2) (c:a.size=2):CallsDIn (FR none) 0 prog 145 a .returning w λe f g=>∃v,e = .returned v/\f = .returning/\Ph w g:=by
 obtain⟨d,h,b⟩:=abP (r:=He vX (Od vX 146 f146) (PM f145) (evC vX (Od vX 146 f146) (λ_ _ _ _=>none) (aao f145) 0 ⟨[],0,[]⟩ (II [])) (PM f145).tail ⟨[(aeA f145,.inil)],H0⟩) (by kernel_rfl);exact X_ (ch:=Od vX 146 f146) (lp:=λ_ _ _ _=>none) Lu mixedOrders air Kv func145 Z Z Z (by decide +kernel) (λi w=>by simp[execOp,resolve,invoke,builtin]) (by kernel_rfl) (by kernel_rfl) Z (by rw[c];decide +kernel) h b
theorem ajv {i:AZ} {a:FuncId->V6 GV->GH->V1 (GV×GH)} (o:∀(b:fM i) {f us H g H'},a f us H=some (g,H')->∀c w d,gQ b c H w->qE c us d->lK prog b c f d w g H') (b:fM i):VU prog ⟨vX,86,a,aaY 249⟩ FI.fns b:=by
 refine⟨Lu,mixedOrders,λh=> ?_,o b,λh c w d H R n=>aeN func249 Z Z Z Z h c w d H R n,λR l j k=> ?_⟩
 .obtain⟨e,m,h⟩:=aE.1 (show ob (Xn _) _=some _ from h);cases h;obtain⟨p,q,r⟩:=aci m;exact⟨p,q,Tb r⟩
 .exact ahx (tb:=vX) (T1:=3) (T2:=49) (cc:=145) Lu func86 call86 call145 Z Z Z (Wg (by kernel_rfl)) (Wg (by kernel_rfl)) (Xr Z Z) (Xr Z Z) (abu Z Z) (abu Z Z) ahG R l j k
theorem Uh {T:Nat} (a:fM (gl T)):VU prog gp FI.fns a:=ajv (λa f d H g c h i w e R b=>Qd h R b) a
def gp0:GP:=⟨vX,86,λ_ _ _=>none,aaY 249⟩
theorem aju (a:fM noG):VU prog gp0 FI.fns a:=ajv (λa f c H g b h=>by cases h) a
end
end Go.Gx
end
namespace Go.Gx
open Go Go.Sx Go.RowKit
mutual
def IM (k:Nat):GV->GV
 | .ptr h o=> .ptr (k+h) o
 | .sl h o l s=> .sl (k+h) o l s
 | .map h=> .map (k+h)
 | .fn f a b=> .fn f (Zg k a) (Zg k b)
 | .agg cs=> .agg (Zg k cs)
 | .tup vs=> .tup (Zg k vs)
 | .int a b=> .int a b
 | .bool b=> .bool b
 | .str a b=> .str a b
 | .pnil=> .pnil
 | .snil=> .snil
 | .fnil=> .fnil
 | .inil=> .inil
 | .un=> .un
 | .bad=> .bad
 | .opn h=> .opn (k+h)
def Zg (k:Nat):V6 GV->V6 GV
 | []=>[]
 |v::r=>IM k v::Zg k r
end
theorem QJ (k:Nat):∀(l:V6 GV) (i:Nat),(Zg k l)[i]? = (l[i]?).map (IM k)
 | [],i=>rfl
 |v::r,0=>rfl
 |v::r,i+1=>by simpa [Zg]using QJ k r i
theorem GI (k:Nat):∀(l:V6 GV),(Zg k l).length=l.length
 | []=>rfl
 |v::r=>by simp[Zg,GI k r]
def shO (k:Nat):GO->GO
 | .cells cs=> .cells (Zg k cs)
 | .mp es=> .mp (es.map λe=>(IM k e.1,IM k e.2))
def Cw (k:Nat) (l:NV):NV:={l with o:=shO k l.o}
theorem Rl.shift {y d:eZ} {k:Nat} (c:∀h l,y h=some l->d (k+h)=some (Cw k l)) {g:GV} {v:V0} (h:Rl y g v):Rl d (IM k g) v:=by
 have m:∀{u:V6 GV} {e:e_},(∀(i:Nat) g v,u[i]? = some g->e[i]? = some v->Rl d (IM k g) v)->∀(i:Nat) g v,(Zg k u)[i]? = some g->e[i]? = some v->Rl d g v:=by
  intro u e D i g v x E;rw[QJ]at x;obtain⟨z,A,rfl⟩:=Option.map_eq_some_iff.1 x;exact D i z v A E
 induction h with
 |int a n=>simp only[IM];exact .int a n
 |bool b=>simp only[IM];exact .bool b
 |str s=>simp only[IM];exact .str s
 |ptr t h=>simp only[IM];exact .ptr (l:=Cw k _) t (c _ _ h)
 |pnil=>simp only[IM];exact .pnil
 |sl h C B=>simp only[IM];exact .sl (l:=Cw k _) (c _ _ h) C B
 |snil=>simp only[IM];exact .snil
 |map h=>simp only[IM];exact .map (l:=Cw k _) (c _ _ h)
 |fn f j w o G q r=>simp only[IM];exact .fn f (by rw[GI];exact j) (m q) (by rw[GI];exact o) (m r)
 |fnil=>simp only[IM];exact .fnil
 |inil=>simp only[IM];exact .inil
 |agg j w o p=>simp only[IM];exact .agg (by rw[GI];exact j) (m p) o
 |tup j w p=>simp only[IM];exact .tup (by rw[GI];exact j) (m p)
 |un=>simp only[IM];exact .un
 |bad v=>simp only[IM];exact .bad v
 |opn v h F=>simp only[IM];exact .opn (l:=Cw k _) v (c _ _ h) F
abbrev OL:=V6 (Nat×Nat×GO)
def Zf:OL->Nat->V1 (Nat×GO)
 | [],_=>none
 |x::r,h=>if h=x.1 then some x.2 else Zf r h
theorem Qn {b:OL} {h:Nat} {p:Nat×GO} (a:Zf b h=some p):(h,p)∈b:=by
 induction b with
 |nil=>cases a
 |cons x r c=>
  simp only[Zf]at a;split at a
  .rename_i e;cases a;subst e;exact zAe
  .exact zAk _ (c a)
noncomputable def Tl (k:Nat) (t:Tr (Nat×GO)):OL->Tr (Nat×GO)
 | []=>t
 |x::r=>(Tl k t r).set (some (k+x.2.1,shO k x.2.2)) (k+x.1)
noncomputable def afs:OL->Tr (Nat×GO)
 | []=> .lf
 |x::r=>(afs r).set (some x.2) x.1
theorem FH:∀(a:OL) (h:Nat),(afs a).get h=Zf a h
 | [],h=>rfl
 |x::r,h=>by
  show((afs r).set (some x.2) x.1).get h=_;rw[uA];simp only[Zf];split
  .rfl
  .exact FH r h
theorem MW (k:Nat) (t:Tr (Nat×GO)):∀(b:OL) (h:Nat),(Tl k t b).get h=if k<=h then(match Zf b (h - k)with|some p=>some (k+p.1,shO k p.2)|none=>t.get h)else t.get h
 | [],h=>by simp[Tl,Zf]
 | x :: r, h => by
  show((Tl k t r).set (some (k+x.2.1,shO k x.2.2)) (k+x.1)).get h=_;rw[uA,MW k t r h];by_cases e:h=k+x.1
  .subst e;rw[if_pos Z,Q3];simp[Zf]
  .rw[if_neg e];by_cases a:k<=h
   .rw[if_pos a,if_pos a];simp only[Zf];rw[if_neg (show¬h - k=x.1 by omega)]
   .rw[if_neg a,if_neg a]
noncomputable def HU (n:Nat) (a:OL):GH:=⟨n,afs a⟩
noncomputable def GH.load (H:GH) (n:Nat) (a:OL):GH:=⟨H.n+n,Tl H.n H.t a⟩
section
variable {gs:AZ} {w0:fM gs} {w w':V2} {ρ ρ2:eZ} {H:GH} {n:Nat} {os:OL}
theorem iV {H:GH} {h:Nat} {o:GO}:H.get h=some o↔∃v,H.t.get h=some (v,o):=by
 unfold GH.get;cases c:H.t.get h with
 |none=>simp[ob]
 |some p=>obtain⟨a,b⟩:=p;simp[ob]
theorem tT {H:GH} {h v:Nat}:H.ver h=some v↔∃o,H.t.get h=some (v,o):=by
 unfold GH.ver;cases c:H.t.get h with
 |none=>simp[ob]
 |some p=>obtain⟨a,b⟩:=p;simp[ob]
theorem gQ.sub {d:GH} (R:gQ w0 ρ H w) (z:d.n=H.n) (m:∀h p,d.t.get h=some p->H.t.get h=some p):gQ w0 ρ d w:=by
 have g:∀h o,d.get h=some o->H.get h=some o:=λh o i=>by
  obtain⟨v,j⟩:=iV.1 i;exact iV.2 ⟨v,m _ _ j⟩
 refine⟨R.ext,λh o i=>R.live h o (g h o i),λh q o y l u e f=>R.inj h q o y l u (g _ _ e) (g _ _ f),λh r=>R.fresh h V7,λh r=>R.dense h V7,λh v l j s=> ?_,R.env⟩
 obtain⟨o,k⟩:=tT.1 j;obtain⟨x,a,b,c⟩:=R.vers h v l (tT.2 ⟨o,m _ _ k⟩) s;refine⟨x,a,b,?_⟩
 have e:=iV.2 ⟨v,k⟩;have f:=g _ _ e;rw[c]at f;cases f;exact e
theorem Ak.shift {l:NV} {o:GO} {f:eZ} {k:Nat} (d:∀h l,ρ2 h=some l->f (k+h)=some (Cw k l)) (h:Ak ρ2 w l o):Ak f w (Cw k l) (shO k o):=by
 cases o with
 |cells z=>
  obtain⟨j,T,r,s,t,y⟩:=h;refine⟨j,T,r,s,by rw[GI];exact t,λi g e=> ?_⟩
  rw[QJ]at e;obtain⟨p,q,rfl⟩:=Option.map_eq_some_iff.1 e;obtain⟨v,a,b,c⟩:=y i p q;exact⟨v,a,b.shift d,c⟩
 |mp A=>
  obtain⟨x,u,r,s,t⟩:=h;refine⟨x,u,r,by simpa [shO]using s,λi g e=> ?_⟩
  rw[List.getElem?_map]at e;obtain⟨p,q,rfl⟩:=Option.map_eq_some_iff.1 e;obtain⟨m,a,b,c⟩:=t i p q;exact⟨m,a,b.shift d,c.shift d⟩
theorem gQ.join {Y:AZ} {hb:Kh Y w λ_=>False} (R:gQ w0 ρ H w) (M:gQ (fM.of w hb) ρ2 (HU n os) w'):
  ∃s:eZ,ρ.le s/\gQ w0 s (H.load n os) w'/\∀g v,Rl ρ2 g v->Rl s (IM H.n g) v:=by
 let s:eZ:=λh=>if h<H.n then ρ h else(ρ2 (h - H.n)).map (Cw H.n);have G:ρ.le s:=λh l f=>by
  have ac:h<H.n:=by
   rcases zAr h H.n with q|q
   .exact q
   .rw[R.fresh h q]at f;cases f
  show(if h<H.n then ρ h else _)=_;rw[if_pos ac];exact f
 have K:∀h l,ρ2 h=some l->s (H.n+h)=some (Cw H.n l):=λh l f=>by
  show(if H.n+h<H.n then _ else _)=_;rw[Q0,show H.n+h - H.n=h by omega,f];rfl
 have k:∀h,h<H.n->s h=ρ h:=λh u=>by show(if h<H.n then ρ h else _)=_;rw[if_pos u]
 have d:∀h,H.n<=h->s h=(ρ2 (h - H.n)).map (Cw H.n):=λh u=>by show(if h<H.n then ρ h else _)=_;rw[Q0]
 have J:∀h,H.n<=h->H.t.get h=none:=λh u=>by
  cases y:H.t.get h with
  |none=>rfl
  |some p=>exact absurd (R.lt (iV.2 ⟨p.1,y⟩)) V7
 have X:∀h,h<H.n->(H.load n os).t.get h=H.t.get h:=λh u=>by
  show(Tl H.n H.t os).get h=_;rw[MW,Q0]
 have gh:∀h p,H.n<=h->(H.load n os).t.get h=some p->∃x,(HU n os).t.get (h - H.n)=some x/\p=(H.n+x.1,shO H.n x.2):=λh p u hp=>by
  have A:(Tl H.n H.t os).get h=some p:=hp;rw[MW,if_pos u,J h u]at A;cases hk:Zf os (h - H.n)with
  |none=>rw[hk]at A;cases A
  |some x=>rw[hk]at A;cases A;exact⟨x,(FH os _).trans hk,rfl⟩
 have W:Ph w w':=M.ext.ext;have L:∀l:NV,(fM.of w hb).mine l.b->w.heap.size<=l.b:=λl h=>by
  rcases h with h|h
  .exact h
  .exact h.elim
 have r:∀h o,h<H.n->(H.load n os).get h=some o->∃l,ρ h=some l/\w0.mine l.b/\Ak ρ w l o/\H.get h=some o:=λh o u y=>by
  obtain⟨v,N⟩:=iV.1 y;rw[X h u]at N;have z:=iV.2 ⟨v,N⟩;obtain⟨l,a,b,c⟩:=R.live h o z;exact⟨l,a,b,c,z⟩
 have m:∀h o,H.n<=h->(H.load n os).get h=some o->∃l O,ρ2 (h - H.n)=some l/\w.heap.size<=l.b/\Ak ρ2 w' l O/\o=shO H.n O/\(HU n os).get (h - H.n)=some O:=λh o u y=>by
  obtain⟨v,N⟩:=iV.1 y;obtain⟨x,E,e⟩:=gh h _ u N;cases e;have z:(HU n os).get (h - H.n)=some x.2:=iV.2 ⟨x.1,E⟩;obtain⟨l,a,b,c⟩:=M.live _ _ z;exact⟨l,x.2,a,L l b,c,rfl,z⟩
 refine⟨s,G,⟨R.ext.trans W,λh o y=> ?_,λh B o U l l' V E f j F=> ?_,λh u=> ?_,λh u=> ?_,λh v l N f=> ?_,λi v e=>let ⟨l,a,b⟩:=R.env i v e;⟨l,G _ _ a,b⟩⟩,λg v y=>y.shift K⟩
 .rcases zAr h H.n with q|q
  .obtain⟨l,a,b,c,_⟩:=r h o q y;exact⟨l,by rw[k h q];exact a,b,c.move G (W.block _ c.lt)⟩
  .obtain⟨l,O,a,b,c,rfl,_⟩:=m h o q y;exact⟨Cw H.n l,by rw[d h q,a];rfl,.inl (zB4 R.ext.size b),c.shift K⟩
 .rcases zAr h H.n with q|q<;>rcases zAr B H.n with I|I
  .obtain⟨l1,C,_,_,P⟩:=r h o q V;obtain⟨T,D,_,_,Q⟩:=r B U I E;rw[k h q,C]at f;rw[k B I,D]at j;cases f;cases j;exact R.inj h B o U _ _ P Q C D F
  .obtain⟨l1,C,_,c1,P⟩:=r h o q V;obtain⟨T,O,D,b2,_,rfl,Q⟩:=m B U I E;rw[k h q,C]at f;rw[d B I,D]at j;cases f;cases j;have:=c1.lt;simp only[Cw]at F;omega
  .obtain⟨l1,o1,C,b1,_,rfl,P⟩:=m h o q V;obtain⟨T,D,_,c2,Q⟩:=r B U I E;rw[d h q,C]at f;rw[k B I,D]at j;cases f;cases j;have:=c2.lt;simp only[Cw]at F;omega
  .obtain⟨l1,o1,C,b1,_,rfl,P⟩:=m h o q V;obtain⟨T,O,D,b2,_,rfl,Q⟩:=m B U I E;rw[d h q,C]at f;rw[d B I,D]at j;cases f;cases j;have:=M.inj _ _ _ _ _ _ P Q C D F;omega
 .have aa:H.n+n<=h:=u;rw[d h V7,M.fresh (h - H.n) (by show n<=_;omega)];rfl
 .have aa:h<H.n+n:=u;rcases zAr h H.n with q|q
  .obtain⟨l,f⟩:=R.dense h q;exact⟨l,by rw[k h q];exact f⟩
  .obtain⟨l,f⟩:=M.dense (h - H.n) (by show _<n;omega);exact⟨Cw H.n l,by rw[d h q,f];rfl⟩
 .obtain⟨o,S⟩:=tT.1 N;rcases zAr h H.n with q|q
  .rw[X h q]at S;rw[k h q]at f;obtain⟨lv,a,b,c⟩:=R.vers h v l (tT.2 ⟨o,S⟩) f;have y:=iV.2 ⟨v,S⟩;obtain⟨l',j,_,ck⟩:=R.live h o y;rw[f]at j;cases j;refine⟨lv,G _ _ a,by rw[W.block _ ck.lt];exact b,?_⟩
   obtain⟨v2,ad⟩:=iV.1 c;exact iV.2 ⟨v2,by rw[X h q];exact ad⟩
  .obtain⟨x,E,e⟩:=gh h _ q S;cases e;rw[d h q]at f;obtain⟨T,ab,rfl⟩:=Option.map_eq_some_iff.1 f;obtain⟨lv,a,b,c⟩:=M.vers (h - H.n) x.1 T (tT.2 ⟨x.2,E⟩) ab;refine⟨Cw H.n lv,K _ _ a,b,?_⟩
   have h3:(HU n os).get (h - H.n)=some x.2:=iV.2 ⟨x.1,E⟩;rw[c]at h3;have h4:=Option.some.inj h3;exact iV.2 ⟨_,by rw[S,<-h4];rfl⟩
end
theorem aaL {a b:Nat×Nat} (h:Uf a b=true):a=b:=by
 obtain⟨f,d⟩:=a;obtain⟨g,e⟩:=b;unfold Uf at h;cases c:Nat.beq d e with
 |false=>simp[c]at h
 |true=>
  simp only[c,cond_true]at h;rw[zA6 h,zA6 c]
theorem Na {c:eZ} {n l:Nat} {x:ByteArray} (a:n=mR (bS x)) (b:l=(bS x).length):Rl c (.str n l) (.string x):=by
 rw[a,b];exact .str x
def isS (a:V6 GV) (p:Nat×Nat):V4:=List.casesOn (motive:=λ_=>V4) a false λu r=>List.casesOn (motive:=λ_=>V4) r (Option.casesOn (motive:=λ_=>V4) (GV.asStr u) false λs=>Uf s p) λ_ _=>false
theorem Vd {b:V6 GV} {p:Nat×Nat} (h:isS b p=true):b=[.str p.1 p.2]:=by
 cases b with
 |nil=>cases h
 | cons u r =>
  cases r with
  |cons _ _=>cases h
  | nil =>
   cases a:GV.asStr u with
   |none=>simp[isS,a]at h
   |some s=>
    have:Uf s p=true:=by simpa [isS,a]using h
    rw[qQ a,aaL this]
noncomputable section
def abU (H:GH) (a:V6 Nat):V1 OL:=List.rec (motive:=λ_=>V1 OL) (some []) (λh _ b=>ob (H.t.get h) λp=>ob b λr=>some ((h,p.1,p.2)::r)) a
theorem JJ {H:GH}:∀{c:V6 Nat} {b:OL},abU H c=some b->∀x∈b,H.t.get x.1=some x.2
 | [],b,h,x,a=>by cases h;cases a
 |h0::c,b,h,x,a=>by
  obtain⟨p,d,h⟩:=aE.1 (show ob (H.t.get h0) (λp=>ob (abU H c) λr=>some ((h0,p.1,p.2)::r))=some b from h);obtain⟨r,e,h⟩:=aE.1 h;cases h;rcases zAo.1 a with rfl|a
  .exact d
  .exact JJ e x a
def SP (T:If) (G:GP) (a f:Nat) (d:V6 GV) (b:V6 Nat):V1 (GV×Nat×OL):=ob (Km T G a f d H0) λr=>ob (abU r.2 b) λc=>some (r.1,r.2.n,c)
def shK {R:Type} (k:Nat) (v:GV) (f:GV->R):R:=GV.casesOn (motive_1:=λ_=>R) v (λa b=>f (.int a b)) (λb=>f (.bool b)) (λa b=>f (.str a b)) (λh o=>sn (Nat.add k h) λh=>f (.ptr h o)) (f .pnil) (λh o l s=>sn (Nat.add k h) λh=>f (.sl h o l s)) (f .snil) (λh=>sn (Nat.add k h) λh=>f (.map h)) (λa b c=>f (IM k (.fn a b c))) (f .fnil) (f .inil) (λd=>f (IM k (.agg d))) (λe=>f (IM k (.tup e))) (f .un) (f .bad) (λh=>sn (Nat.add k h) λh=>f (.opn h))
theorem acu {R:Type} (k:Nat) (v:GV) (f:GV->R):shK k v f=f (IM k v):=by
 cases v<;>simp[shK,yS,IM]
def aiC {R:Type} (k:Nat) (l:V6 GV):(V6 GV->R)->R:=List.rec (motive:=λ_=>(V6 GV->R)->R) (λf=>f []) (λx _ a f=>shK k x λy=>a λr=>f (y::r)) l
theorem Xq {R:Type} (k:Nat):∀(l:V6 GV) (f:V6 GV->R),aiC k l f=f (Zg k l)
 | [],f=>rfl
 |x::l,f=>by
  show shK k x (λy=>aiC k l λr=>f (y::r))=_;rw[acu,Xq k l];rfl
def aiD {R:Type} (k:Nat) (o:GO) (f:GO->R):R:=GO.casesOn (motive:=λ_=>R) o (λa=>aiC k a λa=>f (.cells a)) (λb=>f (shO k (.mp b)))
theorem afH {R:Type} (k:Nat) (o:GO) (f:GO->R):aiD k o f=f (shO k o):=by
 cases o with
 |cells a=>exact Xq k a _
 |mp b=>rfl
def aio {R:Type} (k:Nat) (t:Tr (Nat×GO)) (b:OL):(Tr (Nat×GO)->R)->R:=List.rec (motive:=λ_=>(Tr (Nat×GO)->R)->R) (λf=>f t) (λx _ a f=>a λt=>sn (Nat.add k x.2.1) λv=>sn (Nat.add k x.1) λh=>aiD k x.2.2 λo=>t.setK (some (v,o)) h f) b
theorem Xj {R:Type} (k:Nat) (t:Tr (Nat×GO)):∀(a:OL) (f:Tr (Nat×GO)->R),aio k t a f=f (Tl k t a)
 | [],f=>rfl
 |x::a,f=>by
  show aio k t a (λt=>sn (Nat.add k x.2.1) λv=>sn (Nat.add k x.1) λh=>aiD k x.2.2 λo=>t.setK (some (v,o)) h f)=_;rw[Xj k t a];simp only[yS,afH,Ej];rfl
def OC (g:GV) (n:Nat) (a:OL) (H:GH):V1 (GV×GH):=sn H.n λk=>shK k g λg=>aio k H.t a λt=>sn (Nat.add k n) λm=>some (g,⟨m,t⟩)
theorem abC (g:GV) (n:Nat) (a:OL) (H:GH):OC g n a H=some (IM H.n g,H.load n a):=by
 unfold OC;simp only[yS,acu,Xj];rfl
theorem Qt {P:Program} {T:If} {G:GP} {gs gs2:AZ} (j:gs2.obs=gs.obs) (d:gs2.env=[]) (M:LP T G.tab) (L:∀m:fM gs2,VU P G T.fns m) {a f n:Nat} {y:V6 GV} {z:V6 V0} {O:V6 Nat} {g:GV} {c:OL} (i:SP T G a f y O=some (g,n,c)) (C:aU P f)
  {m:fM gs} {w:V2} {F:eZ} {H o:GH} {B:GV} (Q:qE (λ_=>none) y z) (h:OC g n c H=some (B,o)) (R:gQ m F H w):lK P m F f z w B o:=by
 rw[abC]at h;cases h;obtain⟨r,D,i⟩:=aE.1 (show ob (Km T G a f y H0) _=some (g,n,c)from i);obtain⟨S,s,i⟩:=aE.1 i;cases i;rw[Fw M]at D;have b:Kh gs2 w λ_=>False:=λp t=>⟨(R.glo p (j▸t)).1,id⟩
 rcases Il L (H':=r.2) (g:=r.1) D (gQ.start (fM.of w b) d) Q with⟨v,E,l,k,_⟩|⟨_,N⟩
 .have:=C z.toArray w;rw[show(fM.of w b).w=w from rfl,this]at k;cases k
 .refine .inr ⟨C _ w,N.mono ?_⟩;rintro e E ⟨v,A,rfl,_,I,u⟩;have J:gQ (fM.of w b) A (HU r.2.n c) E:=I.sub Z λh p t=>by
   have:Zf c h=some p:=(FH c h).symm.trans t;exact JJ s _ (Qn this)
  obtain⟨l,q,K,x⟩:=R.join J;exact⟨v,l,rfl,q,K,x _ _ u⟩
theorem OD {P:Program} {T:If} {G:GP} {gs:AZ} (y:LP T G.tab) (x:∀H:fM gs,VU P G T.fns H) {a f n:Nat} {m:V6 GV} {o:V6 V0} {D:V6 Nat} {g:GV} {j:OL} (d:SP T G a f m D=some (g,n,j)) (z:aU P f)
  (E:qE (λ_=>none) m o) (B:gs.env=[]) (b:fM gs):Calls P f o.toArray b.w λe q=>∃v c,e = .returned v/\gQ b c (HU n j) q/\Rl c g v:=by
 obtain⟨r,t,d⟩:=aE.1 (show ob (Km T G a f m H0) _=some (g,n,j)from d);obtain⟨F,k,d⟩:=aE.1 d;cases d;rw[Fw y]at t;rcases Il x (H':=r.2) (g:=r.1) t (gQ.start b B) E with⟨v,q,c,i,_⟩|⟨_,A⟩
 .have:=z o.toArray b.w;rw[this]at i;cases i
 .refine A.mono ?_;rintro e q ⟨v,s,rfl,_,u,l⟩;exact⟨v,s,rfl,u.sub Z λh p C=>by
   have:Zf j h=some p:=(FH j h).symm.trans C;exact JJ k _ (Qn this),l⟩
end
theorem MJ {P:Program} {gs:Nat->AZ} {L:V6 aZ} (D:∀w S,(∀h∈L,h.p w S)->∃T,Kh (gs T) w λ_=>False) {f n:Nat} {z:V6 V0} {g:GV} {y:OL}
  (h:∀T (b:fM (gs T)),Calls P f z.toArray b.w λe s=>∃v c,e = .returned v/\gQ b c (HU n y) s/\Rl c g v) {A:Type} {o:A->V0} {LO:A->V6 aZ}
  (d:∀T (b:fM (gs T)) (B:eZ) (w:V2) (V:V0),(∀k,b.mine k->b.w.heap.size<=k)->gQ b B (HU n y) w->Rl B g V->∃x:A,V=o x/\∀q∈LO x,q.p w (λk=>b.w.heap.size<=k)):
  a_ P f z.toArray L o (λ_ l=>l) (λx l=>LO x++l):=by
 intro t C H;obtain⟨T,u⟩:=D t C H;refine(h T (.of t u)).mono ?_;rintro e s ⟨v,c,rfl,R,G⟩;obtain⟨x,rfl,F⟩:=d T (.of t u) c s v (λk r=>r.elim id False.elim) R G;refine⟨x,rfl,R.ext,λ_ _=>False,⟨λi m E=>by simp at E,λi k h=>h.elim,λi j k h=>h.elim⟩,λq a=> ?_⟩
 have a:q∈LO x++[]:=a;rw[List.append_nil]at a;exact aZ.wide (F q a) (λk r=>⟨.inr (.inl r),λi h=>h.elim⟩)
noncomputable def Hz (s:ByteArray):Nat×Nat:=(mR (bS s),(bS s).length)
theorem Ml {a b:ByteArray} (h:Hz a=Hz b):a=b:=by
 have c:=aaK a b;unfold Hz at h;rw[h]at c;have e:Uf (mR (bS b),(bS b).length) (mR (bS b),(bS b).length)=true:=by simp[Uf]
 rw[e]at c;have d:a.toList=b.toList:=eq_of_beq c.symm;rw[Lib.toList_data,Lib.toList_data]at d;obtain⟨⟨x⟩⟩:=a;obtain⟨⟨y⟩⟩:=b;simp only at d;rw[d]
noncomputable def aaC (a:V6 GV):V1 (Nat×Nat):=List.casesOn (motive:=λ_=>V1 (Nat×Nat)) a none λc r=>List.casesOn (motive:=λ_=>V1 (Nat×Nat)) r c.asStr λ_ _=>none
abbrev ais:eD ByteArray:=⟨1,Nat.one_pos,λ_ _ a x=>a=[.string x],λh=>by simp[h],λh _=>h⟩
theorem eS.str {S:Nat->Prop} {g:eZ} {w:V2}:eS S g w aaC ais Hz:=λgs f y a h _=>by
 cases gs with
 |nil=>cases h
 |cons c gs=>
 cases gs with
 |cons _ _=>cases h
 |nil=>
 have h:c.asStr=some y:=h;obtain⟨v,f,rfl,b,a⟩:=a.of_cons;rw[a.of_nil];rw[qQ h]at b;obtain⟨x,rfl,d,e⟩:=b.str_inv;exact⟨x,by unfold Hz;rw[<-d,<-e],rfl⟩
theorem Xs {c:eZ} {V:V0} {n l:Nat} {s:ByteArray} (h:Rl c (.str n l) V) (e:Hz s=(n,l)):V = .string s:=by
 obtain⟨x,rfl,a,b⟩:=h.str_inv;have:Hz x=Hz s:=by rw[e];unfold Hz;rw[<-a,<-b]
 rw[Ml this]
theorem Du {c:Type}:∀a b:c,id a=id b->a=b:=λ_ _ h=>h
theorem wO {c d e i:Type} {f:c->e} {g:d->i} (j:∀a b,f a=f b->a=b) (k:∀a b,g a=g b->a=b):∀a b:c×d,(λz:c×d=>(f z.1,g z.2)) a=(λz:c×d=>(f z.1,g z.2)) b->a=b:=λa b h=>by
 obtain⟨l,m⟩:=a;obtain⟨n,o⟩:=b;simp only[Prod.mk.injEq]at h;rw[j _ _ h.1,k _ _ h.2]
theorem HG {g i:Type} {f:g->i} (e:∀a b,f a=f b->a=b):∀{c d:V6 g},c.map f=d.map f->c=d
 | [],[],_=>rfl
 | [],_::_,h=>by simp at h
 |_::_,[],h=>by simp at h
 |a::c,b::d,h=>by
  simp only[zBd,List.cons.injEq]at h;rw[e _ _ h.1,HG e h.2]
end Go.Gx