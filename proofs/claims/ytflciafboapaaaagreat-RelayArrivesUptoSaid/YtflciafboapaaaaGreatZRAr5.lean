/- Models and proofs. Conditions: none. -/
import Derived.Test.YtflciafboapaaaaGreatZRAr4
set_option linter.unusedVariables false
set_option linter.unusedSimpArgs false
set_option maxHeartbeats 4000000
set_option maxRecDepth 20000
open Go.Proofs.Tryz
variable (U:Nat)
namespace Go.Gx
open Go Go.Sx
noncomputable section
section
variable {α R:Type}
def a0 (a:V6 α) (k:V1 R):V1 R:=List.casesOn (motive:=λ_=>V1 R) a k (λ_ _=>none)
def a1 (b:V6 α) (k:α->V1 R):V1 R:=List.casesOn (motive:=λ_=>V1 R) b none λa r=>a0 r (k a)
def a2 (b:V6 α) (k:α->α->V1 R):V1 R:=List.casesOn (motive:=λ_=>V1 R) b none λa r=>a1 r (k a)
def a3 (b:V6 α) (k:α->α->α->V1 R):V1 R:=List.casesOn (motive:=λ_=>V1 R) b none λa r=>a2 r (k a)
def a4 (b:V6 α) (k:α->α->α->α->V1 R):V1 R:=List.casesOn (motive:=λ_=>V1 R) b none λa r=>a3 r (k a)
def a5 (us:V6 α) (k:α->α->α->α->α->V1 R):V1 R:=List.casesOn (motive:=λ_=>V1 R) us none λa r=>a4 r (k a)
def a6 (b:V6 α) (k:α->α->α->α->α->α->V1 R):V1 R:=List.casesOn (motive:=λ_=>V1 R) b none λa r=>a5 r (k a)
theorem adY {a:V6 α} {k:V1 R} {r:R} (h:a0 a k=some r):a=[]/\k=some r:=by
 cases a with
 |nil=>exact⟨rfl,h⟩
 |cons _ _=>cases h
theorem WF {a:V6 α} {k:α->V1 R} {r:R} (h:a1 a k=some r):∃x,a=[x]/\k x=some r:=by
 cases a with
 |nil=>cases h
 |cons x a=>obtain⟨rfl,h⟩:=adY h;exact⟨x,rfl,h⟩
theorem WG {a:V6 α} {k:α->α->V1 R} {r:R} (h:a2 a k=some r):∃x y,a=[x,y]/\k x y=some r:=by
 cases a with
 |nil=>cases h
 |cons x a=>obtain⟨y,rfl,h⟩:=WF h;exact⟨x,y,rfl,h⟩
theorem adZ {a:V6 α} {k:α->α->α->V1 R} {r:R} (h:a3 a k=some r):∃x y z,a=[x,y,z]/\k x y z=some r:=by
 cases a with
 |nil=>cases h
 |cons x a=>obtain⟨y,z,rfl,h⟩:=WG h;exact⟨x,y,z,rfl,h⟩
theorem ad_ {a:V6 α} {k:α->α->α->α->V1 R} {r:R} (h:a4 a k=some r):∃x y z u,a=[x,y,z,u]/\k x y z u=some r:=by
 cases a with
 |nil=>cases h
 |cons x a=>obtain⟨y,z,u,rfl,h⟩:=adZ h;exact⟨x,y,z,u,rfl,h⟩
theorem aea {a:V6 α} {k:α->α->α->α->α->V1 R} {r:R} (h:a5 a k=some r):∃x y z u v,a=[x,y,z,u,v]/\k x y z u v=some r:=by
 cases a with
 |nil=>cases h
 |cons x a=>obtain⟨y,z,u,v,rfl,h⟩:=ad_ h;exact⟨x,y,z,u,v,rfl,h⟩
theorem aeb {a:V6 α} {k:α->α->α->α->α->α->V1 R} {r:R} (h:a6 a k=some r):∃x y z u v w,a=[x,y,z,u,v,w]/\k x y z u v w=some r:=by
 cases a with
 |nil=>cases h
 |cons x a=>obtain⟨y,z,u,v,w,rfl,h⟩:=aea h;exact⟨x,y,z,u,v,w,rfl,h⟩
end
def dSc (k:IntKind) (v:GV):V1 Int:=ob v.asI λp=>bif eqK p.1 k then some p.2 else none
def ajF (H:GH) (v:GV):V1 (Int×V6 Int×V6 Int×V6 Int×V4×V4):=ob v.asA λg=>a6 g λa b c d e f=>ob (dSc .i64 a) λn=>ob (Pv H b) λx=>ob (Pv H c) λy=>ob (Pv H d) λz=>ob e.asB λp=>ob f.asB λq=>some (n,x,y,z,p,q)
def gI (n:Int):V6 GV:=[.int .i64 n]
def gP (p:Int×Int):V6 GV:=[.int .i64 p.1,.int .i64 p.2]
def fcI {R:Type} (l:V6 Int):(V6 Int->R)->R:=List.rec (motive:=λ_=>(V6 Int->R)->R) (λk=>k []) (λx _ a k=>fi x λx=>a λr=>k (x::r)) l
def fcP {R:Type} (l:V6 (Int×Int)):(V6 (Int×Int)->R)->R:=List.rec (motive:=λ_=>(V6 (Int×Int)->R)->R) (λk=>k []) (λx _ c k=>fi x.1 λa=>fi x.2 λb=>c λr=>k ((a,b)::r)) l
def fcR {R:Type} (l:V6 (V6 (Int×Int))):(V6 (V6 (Int×Int))->R)->R:=List.rec (motive:=λ_=>(V6 (V6 (Int×Int))->R)->R) (λk=>k []) (λx _ a k=>fcP x λx=>a λr=>k (x::r)) l
theorem abm {R:Type}:∀(l:V6 Int) (k:V6 Int->R),fcI l k=k l
 | [],k=>rfl
 |x::l,k=>by
  show fi x (λx=>fcI l λr=>k (x::r))=_;rw[PI,abm l]
theorem abn {R:Type}:∀(l:V6 (Int×Int)) (k:V6 (Int×Int)->R),fcP l k=k l
 | [],k=>rfl
 |x::l,k=>by
  show fi x.1 (λa=>fi x.2 λb=>fcP l λr=>k ((a,b)::r))=_;rw[PI,PI,abn l]
theorem abo {R:Type}:∀(l:V6 (V6 (Int×Int))) (k:V6 (V6 (Int×Int))->R),fcR l k=k l
 | [],k=>rfl
 |x::l,k=>by
  show fcP x (λx=>fcR l λr=>k (x::r))=_;rw[abn,abo l]
def agx (b:V4) (H:GH):OR:=Bool.casesOn (motive:=λ_=>OR) b (some (.bool false,H)) (some (.bool true,H))
def VT (r:V6 Int×V6 (V6 (Int×Int))) (H:GH):OR:=fcI r.1 λx=>fcR r.2 λy=>bif Nat.beq x.length 0 then none else bif Nat.beq y.length 0 then none else bif y.any λl=>Nat.beq l.length 0 then none else
 fc (x.flatMap gI) λl=>H.newK (.cells l) λh a=>fc (yU 2 gP y a).1 λd=>sn x.length λn=>sn y.length λm=>(yU 2 gP y a).2.newK (.cells d) λc b=>some (.agg [.sl h 0 n 1,.sl c 0 m 1],b)
end
section
variable {P:Program} {gs:Cf} {w0:fO gs} {w:V2} {ρ:fE} {H H':GH} {g:GV}
theorem pX.one {x:GV} {vs:V6 V0} (h:pX ρ [x] vs):∃V,vs=[V]/\Rl ρ x V:=by
 obtain⟨v,vs,rfl,a,b⟩:=h.of_cons;rw[b.of_nil];exact⟨v,rfl,a⟩
theorem aa_ {k:IntKind} {v:GV} {V:V0} {n:Int} (a:Rl ρ v V) (h:dSc k v=some n):V = .int k n:=by
 have⟨p,c,h⟩:=aE.1 (show ob v.asI _=some n from h);have⟨b,h⟩:=bV.1 h;cases h;rw[nS c]at a;rw[a.int_inv,Ky b]
theorem aav {v:GV} {V:V0} {b:V4} (a:Rl ρ v V) (h:v.asB=some b):V = .bool b:=by
 rw[Ef h]at a;exact a.bool_inv
theorem aeR (R:g_ w0 ρ H w) {v:GV} {V:V0} {p:Int×V6 Int×V6 Int×V6 Int×V4×V4} (l:Rl ρ v V) (h:ajF H v=some p):
  ∃m o s,V = .agg #[.int .i64 p.1,m,o,s,.bool p.2.2.2.2.1,.bool p.2.2.2.2.2]/\(Sl (dX.int .i64) m p.2.1).p w All/\(Sl (dX.int .i64) o p.2.2.1).p w All/\(Sl (dX.int .i64) s p.2.2.2.1).p w All:=by
 have⟨T,k,h⟩:=aE.1 (show ob v.asA _=some p from h);obtain⟨a,b,c,d,e,f,rfl,h⟩:=aeb h;have⟨n,I,h⟩:=aE.1 h;have⟨x,L,h⟩:=aE.1 h;have⟨y,M,h⟩:=aE.1 h;have⟨z,N,h⟩:=aE.1 h;have⟨q,J,h⟩:=aE.1 h;have⟨r,K,h⟩:=aE.1 h;cases h;rw[Ng k]at l;obtain⟨j,rfl,i,_⟩:=l.agg_inv;obtain⟨U,j,rfl,B,i⟩:=i.of_cons;obtain⟨O,j,rfl,C,i⟩:=i.of_cons;obtain⟨Q,j,rfl,D,i⟩:=i.of_cons;obtain⟨S,j,rfl,E,i⟩:=i.of_cons;obtain⟨W,j,rfl,F,i⟩:=i.of_cons;obtain⟨X,rfl,G⟩:=i.one;have t:=aa_ B I;have u:=aav F J;have A:=aav G K;subst t u A;exact⟨O,Q,S,rfl,Jq R C L,Jq R D M,Jq R E N⟩
theorem VS {b:V4} (h:agx b H=some (g,H')):g = .bool b/\H'=H:=by
 cases b<;>cases h<;>exact⟨rfl,rfl⟩
theorem TN {r:V6 Int×V6 (V6 (Int×Int))} (h:VT r H=some (g,H')):r.1≠[]/\r.2≠[]/\(∀a∈r.2,a≠[])/\
  g = .agg [.sl H.n 0 r.1.length 1,.sl (yU 2 gP r.2 (H.new (.cells (r.1.flatMap gI)))).2.n 0 r.2.length 1]/\H'=(yU 2 gP r.2 (H.new (.cells (r.1.flatMap gI)))).2.new (.cells (yU 2 gP r.2 (H.new (.cells (r.1.flatMap gI)))).1):=by
 unfold VT at h;rw[abm,abo]at h;have⟨b,h⟩:=lG.1 h;have⟨c,h⟩:=lG.1 h;have⟨d,h⟩:=lG.1 h;rw[Tn,jR,Tn,Ad,Ad,jR]at h;cases h;refine⟨λe=>(by rw[e]at b;cases b),λe=>(by rw[e]at c;cases c),λa f e=>?_,rfl,rfl⟩
 have:=List.any_eq_false.1 d a f;rw[e]at this;exact this Z
theorem ajL (ρ:fE) (x:Int):pX ρ (gI x) [.int .i64 x]:= .cons (.int _ _) .nil
theorem ajM (ρ:fE) (x:Int×Int):pX ρ (gP x) [.int .i64 x.1,.int .i64 x.2]:= .cons (.int _ _) (.cons (.int _ _) .nil)
theorem NJ (w:V2) (S:Nat->Prop) (_:∀h∈([]:V6 a_),h.p w S):∃_:Nat,Lr noG w λ_=>False:=⟨0,λ_ h=>absurd h zAz⟩
theorem Rp {gs:Nat->Cf} {f:Nat} {V:V0} {L:V6 a_} (q:∀w S,(∀h∈L,h.p w S)->∃T,Lr (gs T) w λ_=>False) (r:aU P f) (y:∀ρ d,Rl ρ g d->d=V) (h:∀T (b:fO (gs T)),kW P b (λ_=>none) f [] b.w g H'):aZ P f #[] L (λ_:Unit=>V) (λ_ l=>l) (λ_ l=>l):=by
 intro w0 o z;have⟨T,n⟩:=q w0 o z;rcases h T (.of w0 n)with⟨v,A,c,a,_⟩|⟨_,s⟩
 .have x:=r #[] w0;rw[show([]:V6 V0).toArray = #[]from rfl]at a;rw[show(fO.of w0 n).w=w0 from rfl,x]at a;cases a
 refine s.mono ?_;rintro e A ⟨v,c,rfl,_,R,a⟩;exact⟨(),by rw[y _ _ a],R.ext,λ_ _=>False,⟨λi m u=>by simp at u,λi k h=>h.elim,λi j k h=>h.elim⟩,λf t=>by simp at t⟩
section
variable {tb:TB} {T:V9}
theorem WK (h:En tb T=some [Bj]) (H:GH):sL tb T H=some (.ptr H.n 0,H.new (.cells [Bj])):=by
 unfold sL;rw[h];show H.newK (.cells [Bj]) (λh H'=>some (GV.ptr h 0,H'))=_;rw[jR]
theorem XX {t:Ty} (h:tb T=some t) (e:t.size=1) (H:GH) (k:Nat) (c:GV) (d:GH.cells H k=some [c]):mB tb T (.ptr k 0) Bj H=some (.un,H.set k (.cells [Bj])):=by
 show ob (H.cells k) (λb=>ob (tb T) λt=>bif Nat.beq 1 t.size then bif Nat.beq t.size 0 then none else ob (Jw [Bj] 0 b) λa=>H.setK k (.cells a) λH'=>some (GV.un,H')else none)=_;rw[d,h];show(bif Nat.beq 1 t.size then bif Nat.beq t.size 0 then none else ob (Jw [Bj] 0 [c]) λa=>H.setK k (.cells a) λH'=>some (GV.un,H')else none)=_;rw[e];show H.setK k (.cells [Bj]) (λH'=>some (GV.un,H'))=_;rw[Bp]
theorem abU {t:Ty} (h:tb T=some t) (b:Al t.desc=false) (H:GH) (k:Nat) (c:GH.cells H k=some [Bj]):wE tb T (.ptr k 0) H=some Bj:=by
 show ob (H.cells k) (λa=>ob (tb T) λt=>DU t a 0)=_;rw[c,h];show DU t [Bj] 0=_;unfold DU;rw[b];rfl
end
def QR (a:Func):V6 V5:=match a.body with
 |some (.seq (.region _ ops _) _)=>ops.toList
 |_=>[]
def aaL (a:Func):Code:=match a.body with
 |some (.seq _ c)=>c
 |_=>.skip
def aeO (a:Func):Nat:=match QR a with
 |o::_=>o.dst.getD 0
 | []=>0
def okN (r:RS):V4:=match r with
 |some o=>match o.e with
  | .normal=>true
  |_=>false
 |none=>false
theorem acn {r:RS} (h:okN r=true):∃a,r=some a/\a.e = .normal:=by
 unfold okN at h;cases r with
 |none=>cases h
 |some o=>
  refine⟨o,rfl,?_⟩
  cases b:o.e<;>simp only[b]at h<;>first|rfl|cases h
def okT (r:OR):V4:=match r with
 |some (.bool true,_)=>true
 |_=>false
theorem aco {r:OR} (h:okT r=true):∃H',r=some (.bool true,H'):=by
 unfold okT at h;split at h
 .exact⟨_,rfl⟩
 .cases h
end
end Go.Gx
namespace Go.Proofs.YtflciafboapaaaaGreat
open Go.Sx
def pL (a:Unit):V1 V4:=
 some (true)
def jX (d:aX) (a:Int×V6 (V4)) (c:(Int×V6 (V4))->V1 V4) (b:V4):V1 V4:=
 if b=true then(some (false))else(ck ((0<=(at' d a.1)/\(at' d a.1)<((256:Nat):Int))/\a.2.length=256) (c ((wI .i64 (a.1+(1:Int))),(List.set a.2 (Int.toNat (at' d a.1)) true))))
def iO (b:aX) (a:Int×V6 (V4)) (c:(Int×V6 (V4))->V1 V4):V1 V4:=
 if a.1<(b.length:Int)then(ck (0<=a.1/\a.1<(b.length:Int)) (if(at' b a.1)<(0:Int)then(jX b a c (true))else(if(255:Int)<(at' b a.1)then(jX b a c (true))else(ck ((0<=(at' b a.1)/\(at' b a.1)<((256:Nat):Int))/\a.2.length=256) (jX b a c ((at' a.2 (at' b a.1))))))))else(pL (()))
def kQ (a:aX):V1 V4:=
 bE (iO a) U ((0:Int),(List.replicate 256 false))
theorem aej:aU prog 115:=call115
theorem GU {d:aX} (o:V0) (r:V4) (h:kQ U d=some r):
  aZ prog 115 #[o] [Sl aK o d] (λx:Unit=>vB (r)) (λx l=>l) (λ_ l=>l):=by
 let k:=(List.replicate 256 false)
 refine aZ.of func115 Z ntmps115 Z λc=>?_;unfold kQ at h;refine Q4 Z<|aT<|aI (aN.alloc (cs:=cellsOf EBo k) Z (by kernel_rfl)) Z λn=>?_;refine aO<|aL<|fV (λm=>pL m=some r) (λm p=>[]) (λm p=>[]) ?_ ?_
 .refine Q6 Z<|jH (cP Z) Z<|aA Z<|aO<|aQ<|fT (iO d) (λa q=>[(3,vP n),(6,o),(7,vI (d.length:Int)),(8,vI (a.1))]) (λa q=>[bG n (cellsOf EBo a.2) 202]) ((0:Int),k) () h SF (aS.refl _) ?_;intro s a q h;refine aT<|cN Z<|aO<|aL<|gC h Z (λh=>?_) λh=>?_
  .refine cU<|aL<|aQ<|aT<|dQ h λg h=>aB (bD Z Z (cP Z) Z Z g) Z<|aB (bY Z (cP Z) Z Z Z dJ g) Z<|Q5 Z<|aL<|aL<|fV (λb=>jX d a (bE (iO d) s) b=some r) (λb f=>[(3,vP n),(5,vI (at' d a.1)),(6,o),(7,vI (d.length:Int)),(8,vI (a.1)),(22,vB (b))]) (λb f=>[bG n (cellsOf EBo a.2) 202]) ?_ ?_
   .refine aP<|aA Z<|cN Z<|aA Z<|IX h Z (λ_ h=>?_) λ_ h=>?_
    .exact aW Z<|aW Z<|gT Z<|aA Z<|aW Z<|aW Z<|aW Z<|gT Z<|aO<|jV (true) () h SF Z
    refine gW Z<|bB Z (zW Z Z) Z<|iV Z<|aA Z<|IX h Z (λ_ h=>?_) λ_ h=>?_
    .exact aW Z<|aW Z<|aW Z<|gT Z<|aO<|jV (true) () h SF Z
    exact gW Z<|dQ h λj h=>bB Z (qS Z Z Z Z Z j.1) Z<|bB Z (Yy (e:=EBo) Z (aH.res 0 Z) Z Z Z Z j) Z<|iV Z<|aO<|jV ((at' a.2 (at' d a.1))) () h SF Z
   intro b f h;refine Ag h Z (λ_ h=>?_) λ_ h=>?_
   .refine Q4 Z<|aV<|aM<|bU<|aM<|aM<|bU<|aM ?_;cases h;exact uC Z
   exact cU<|aP<|aA Z<|dQ h λi h=>aB (qS Z Z Z Z Z i.1) Z<|MU 0 (e:=EBo) true i Z Z Z Z Z Z Z<|fC<|mF<|aP<|cH Z<|aA Z<|aO<|Ci ((wI .i64 (a.1+(1:Int))),(List.set a.2 (Int.toNat (at' d a.1)) true)) () h SF Z
  exact fH<|cD () (()) h SF .nil (aD.refl _ _)
 intro m p h;unfold pL at h;refine Q4 Z<|aV ?_;cases h;exact oA Z
def zN (c:(V6 ((Int×Int)×Int))) (a:(Int×Int)×Int) (b:V1 V4):V1 V4:=
 if(Option.getD (q_ (a.1.2,a.1.1) c) (0:Int))≠a.2 then(some (false))else(b)
def kF (a:(V6 ((Int×Int)×Int))):V1 V4:=
 ON (zN a) (some (true)) a
def oS (b:LV) (a:Qh->V1 V4) (c:(V6 ((Int×Int)×Int))):V1 V4:=
 a ((wI .i64 (b.1+(1:Int))),c)
def kG (e:gY) (b a:LV) (c:Qh->V1 V4) (d:V4):V1 V4:=
 if d=true then(some (false))else(if(Option.isSome (q_ (b.1,((at' (at' e b.1) a.1).1)) a.2))=true then(some (false))else(c ((wI .i64 (a.1+(1:Int))),(HV (b.1,((at' (at' e b.1) a.1).1)) ((at' (at' e b.1) a.1).2) a.2))))
def jD (d:gY) (a b:LV) (c:Qh->V1 V4) (e:V4):V1 V4:=
 if e=true then(some (false))else(if((at' (at' d a.1) b.1).2)<(1:Int)then(kG d a b c (true))else(kG d a b c (decide ((15:Int)<((at' (at' d a.1) b.1).2)))))
def dK (d:gY) (a:LV) (e:Qh->V1 V4) (b:LV) (c:Qh->V1 V4):V1 V4:=
 if b.1<((at' d a.1).length:Int)then(ck (0<=b.1/\b.1<((at' d a.1).length:Int)) (if((at' (at' d a.1) b.1).1)<(0:Int)then(jD d a b c (true))else(if(d.length:Int)<=((at' (at' d a.1) b.1).1)then(jD d a b c (true))else(jD d a b c (decide (((at' (at' d a.1) b.1).1)=a.1))))))else(oS a e (b.2))
def dY (c:gY) (a:LV) (b:Qh->V1 V4):V1 V4:=
 if a.1<(c.length:Int)then(ck (0<=a.1/\a.1<(c.length:Int)) (bE (dK c a b) U ((0:Int),a.2)))else(kF (a.2))
def iR (a:gY):V1 V4:=
 bE (dY U a) U ((0:Int),([]:V6 ((Int×Int)×Int)))
theorem aek:aU prog 116:=call116
theorem JW (U:Nat) {f:gY} (n:V0) (F:kI) (r:Bool) (h:iR U f=some r):
  aZ prog 116 #[n] [S2 aR n F f] (λx:Unit=>vB (r)) (λx l=>l) (λ_ l=>l):=by
 refine aZ.of func116 Z ntmps116 Z λc=>?_;unfold iR at h;refine aT<|aC Z<|aO<|aT<|aI (aN.makeMap pF Uy) Z λk=>aC Z<|aO<|aL<|fV (λq=>kF q=some r) (λq H=>[(3,Value.map (some k))]) (λq H=>[Mp pF Uy k q]) ?_ ?_
 .refine aT<|aA Z<|aB (fR Z (cP Z) Z) Z<|aA Z<|aO<|aQ<|fT (dY U f) (λd y=>[(0,n),(3,Value.map (some k)),(14,n),(15,vI (f.length:Int)),(16,vI (d.1))]) (λd y=>[Mp pF Uy k d.2]) ((0:Int),([]:List ((Int×Int)×Int))) () h SF (aS.refl _) ?_;intro t d y h;refine aT<|cN Z<|aO<|aL ?_;refine gC h Z (λh=>?_) λh=>?_
  .refine cU<|aL<|fV (λm=>oS d (bE (dY U f) t) m=some r) (λm z=>[(0,n),(3,Value.map (some k)),(14,n),(15,vI (f.length:Int)),(16,vI (d.1))]) (λm z=>[Mp pF Uy k m]) ?_ ?_
   .refine aQ<|aT<|aA Z<|dQ h λj h=>aB (bX Z Z (cP Z) Z Z j) Z<|aB (cB Z (cP Z) Z Z j) Z<|aC Z<|aC Z<|aO<|aT<|aA Z<|aB (eW Z (zBk (cP Z) j.1 j.2) Z) Z<|aA Z<|aO<|aQ<|fT (dK f d (bE (dY U f) t)) (λe A=>[(0,n),(3,Value.map (some k)),(4,vI (d.1)),(14,n),(15,vI (f.length:Int)),(16,vI (d.1)),(21,(at' F d.1).1),(22,vI ((at' f d.1).length:Int)),(23,vI (e.1))]) (λe A=>[Mp pF Uy k e.2]) ((0:Int),d.2) () h SF (aS.refl _) ?_;intro E e A h;refine aT<|cN Z<|aO<|aL ?_;refine gC h Z (λh=>?_) λh=>?_
    .refine cU<|aL<|aQ<|aT<|dQ h λD h=>aB (bD Z Z (zBk (cP Z) j.1 j.2) Z Z D) Z<|aB (fG (cs:=[vI ((at' (at' f d.1) e.1).1),vI ((at' (at' f d.1) e.1).2)]) Z (zBk (cP Z) j.1 j.2) cA Z Z Z Z D) Z<|aI (aN.alloc (cs:=MN) Z Z) Z λs=>bP 0 (vs:=[vI ((at' (at' f d.1) e.1).1),vI ((at' (at' f d.1) e.1).2)]) Z Z Z Z Z Z<|aO<|aL<|aL<|fV (λo=>jD f d e (bE (dK f d (bE (dY U f) t)) E) o=some r) (λo B=>[(0,n),(3,Value.map (some k)),(4,vI (d.1)),(7,vP s),(14,n),(15,vI (f.length:Int)),(16,vI (d.1)),(21,(at' F d.1).1),(22,vI ((at' f d.1).length:Int)),(23,vI (e.1)),(42,vB (o))]) (λo B=>[bG s [vI ((at' (at' f d.1) e.1).1),vI ((at' (at' f d.1) e.1).2)] 80,Mp pF Uy k e.2]) ?_ ?_
     .refine aP<|bZ Z<|dO 0 Z<|cN Z<|aA Z ?_;refine IX h Z (λ_ h=>?_) λ_ h=>?_
      .refine aW Z<|aW Z<|aW Z<|aW Z<|aW Z<|gT Z<|aA Z<|aW Z<|aW Z<|aW Z<|aW Z<|gT Z<|aO ?_;exact jV (true) () h SF Z
      refine bB Z (dN Z Z Z Z Z) Z<|bB Z (eI 0 Z Z Z Z Z) Z<|gW Z<|bB Z (fR Z (cP Z) Z) Z<|bB Z (Ev Z Z) Z<|iV Z<|aA Z ?_;refine IX h Z (λ_ h=>?_) λ_ h=>?_
      .refine aW Z<|aW Z<|aW Z<|aW Z<|gT Z<|aO ?_;exact jV (true) () h SF Z
      refine bB Z (dN Z Z Z Z Z) Z<|bB Z (eI 0 Z Z Z Z Z) Z<|gW Z<|bB Z (WE Z Z) Z<|iV Z<|aO ?_;exact jV (decide (((at' (at' f d.1) e.1).1)=d.1)) () h SF Z
     intro o B h;refine Ag h Z (λ_ h=>?_) λ_ h=>?_
     .refine aT<|aC Z<|aO<|aV<|aM<|bU<|aM<|aM<|bU<|bU<|aM<|aM<|bU<|aM ?_;cases h;exact uC Z
     refine cU<|aL<|aL<|fV (λp=>kG f d e (bE (dK f d (bE (dY U f) t)) E) p=some r) (λp C=>[(0,n),(3,Value.map (some k)),(4,vI (d.1)),(7,vP s),(14,n),(15,vI (f.length:Int)),(16,vI (d.1)),(21,(at' F d.1).1),(22,vI ((at' f d.1).length:Int)),(23,vI (e.1)),(50,vB (p))]) (λp C=>[bG s [vI ((at' (at' f d.1) e.1).1),vI ((at' (at' f d.1) e.1).2)] 80,Mp pF Uy k e.2]) ?_ ?_
     .refine aP<|bZ Z<|dO 0 Z<|cN Z<|aA Z ?_;refine IX h Z (λ_ h=>?_) λ_ h=>?_
      .refine aW Z<|aW Z<|aW Z<|gT Z<|aO ?_;exact jV (true) () h SF Z
      refine bB Z (dN Z Z Z Z Z) Z<|bB Z (eI 0 Z Z Z Z Z) Z<|bB Z (zW Z Z) Z<|iV Z<|aO ?_;exact jV (decide ((15:Int)<((at' (at' f d.1) e.1).2))) () h SF Z
     intro p C h;refine Ag h Z (λ_ h=>?_) λ_ h=>?_
     .refine aT<|aC Z<|aO<|aV<|aM<|bU<|aM<|aM<|bU<|bU<|aM<|aM<|bU<|aM ?_;cases h;exact uC Z
     refine cU<|aT<|aA Z<|bZ Z<|dO 0 Z ?_;refine aB (EZ (r:=Value.agg #[vI (d.1),vI ((at' (at' f d.1) e.1).1)]) Z Z (by intro w;simp[Instr.build,Instr.fill,dU,c_,cO,dV,dW,dC,eV])) Z ?_;refine aI (aN.alloc (cs:=MN) Z Z) Z λK=>bP 0 (vs:=[vI (d.1),vI ((at' (at' f d.1) e.1).1)]) Z Z Z Z Z Z<|aO<|aL<|aT<|aA Z<|cL 0 Z ?_;refine aB (SR 2 ((d.1,((at' (at' f d.1) e.1).1))) (u:=vI (Option.getD (q_ (d.1,((at' (at' f d.1) e.1).1)) e.2) (0:Int))) Rn Z Z Z Z Z (by cases q_ ((d.1,((at' (at' f d.1) e.1).1))) e.2<;>rfl)) Z ?_;refine aA Z<|lV Z<|lV Z<|aC Z<|aC Z<|aO<|aT<|aA Z<|aO ?_;refine Ag h Z (λ_ h=>?_) λ_ h=>?_
     .refine aT<|aC Z<|aO<|aV<|aM<|bU<|aM<|aM<|bU<|bU<|aM<|aM<|bU<|aM ?_;cases h;exact uC Z
     refine cU<|aP<|aA Z<|cL 0 Z<|bZ Z<|dO 1 Z<|Sr 2 ((d.1,((at' (at' f d.1) e.1).1))) ((at' (at' f d.1) e.1).2) Rn Z Z Z Z Z<|fC<|mF<|aP<|cH Z<|aA Z<|aO ?_;exact gA ((wI .i64 (e.1+(1:Int))),(HV (d.1,((at' (at' f d.1) e.1).1)) ((at' (at' f d.1) e.1).2) e.2)) () h SF (aS.ix [2] Z Z) (aD.refl _ _)
    refine sS<|fU<|fU<|Aj<|mF ?_;exact jV (e.2) () h SF Z
   intro m z h;unfold oS at h;refine aP<|cH Z<|aA Z<|aO ?_;exact Ci ((wI .i64 (d.1+(1:Int))),m) () h SF Z
  refine fH ?_;exact jV (d.2) () h SF Z
 intro q H h;unfold kF at h;refine aL<|aT<|aA Z<|aI (aN.range 0 Z Z Z) Z λI=>aO<|aQ<|adQ [(3,Value.map (some k)),(69,vP I)] [It I k (q.length) ([]),Mp pF Uy k q] [S2 aR n F f] SF (aS.refl _) (aD.refl _ _) ?_;refine Yu (zN q) 1 0 (by intro a b x;unfold zN;repeat' split;all_goals first|rfl|contradiction|simp_all) h Z Z Z Z Z Z ?_ ?_
 .skip
  intro g N G M v h;refine aQ<|aT<|aI (aN.entry 1 0 v Z Z Z) Z λL=>lV Z<|lV Z<|aI (aN.alloc (cs:=MN) Z Z) Z λJ=>bP 0 (vs:=[vI (g.1.1),vI (g.1.2)]) Z Z Z Z Z Z<|aC Z<|aO<|aT<|aA Z ?_;refine aB (qS (i:=1) Z Z Z Z Z (by decide)) Z ?_;refine dO 0 Z ?_;refine aB (qS (i:=0) Z Z Z Z Z (by decide)) Z ?_;refine dO 0 Z ?_;refine aB (EZ (r:=Value.agg #[vI (g.1.2),vI (g.1.1)]) Z Z (by intro w;simp[Instr.build,Instr.fill,dU,c_,cO,dV,dW,dC,eV])) Z ?_;refine aB (SR 2 ((g.1.2,g.1.1)) (u:=vI (Option.getD (q_ (g.1.2,g.1.1) q) (0:Int))) Rn Z Z Z Z Z (by cases q_ ((g.1.2,g.1.1)) q<;>rfl)) Z ?_;refine aA Z<|tT Z<|aO ?_;refine gC h Z (λh=>?_) λh=>?_
  .refine aT<|aC Z<|aO<|aV<|bU<|aM<|bU<|aM ?_;cases h;exact uC Z
  refine eK<|mF ?_;exact UT h SF (aS.ix [1,2] Z Z) (aD.refl _ _)
 intro G h;refine Aj<|Hm<|aT<|aC Z<|aO<|aV ?_;cases h;exact uC Z
def rX (a:V4):V1 V4:=
 some (a)
def rW (b:b_) (c:V4):V1 V4:=
 if c=true then(some (false))else(Option.bind (kQ U b.1) λd=>(if d=true then(Option.bind (iR U b.2) λa=>(rX (a)))else(rX (false))))
def gO (a:b_):V1 V4:=
 if(a.1.length:Int)<(1:Int)then(rW U a (true))else(if(24:Int)<(a.1.length:Int)then(rW U a (true))else(rW U a (decide ((a.2.length:Int)≠(a.1.length:Int)))))
theorem Nl:aU prog 72:=call72
theorem yK {p0:b_} (f g:V0) (o:kI) (r:V4) (h:gO U p0=some r):
  aZ prog 72 #[Value.agg #[f,g]] [Sl aK f p0.1,S2 aR g o p0.2] (λx:Unit=>vB (r)) (λx l=>l) (λ_ l=>l):=by
 refine aZ.of func72 Z ntmps72 Z λc=>aT<|aI (aN.box (cs:=[f,g]) Z Z) Z λk=>Q5 Z<|aT<|bZ Z<|dO 0 Z<|jH (cP Z) Z<|Q5 Z<|aL<|aL<|fV (λb=>rW U p0 b=some r) (λb m=>[(1,vP k),(19,vB (b))]) (λb m=>[bG k [f,g] 31]) ?_ ?_
 .refine aP<|aA Z<|cN Z<|aA Z<|IX h Z (λ_ h=>?_) λ_ h=>?_
  .exact aW Z<|aW Z<|gT Z<|aA Z<|aW Z<|aW Z<|aW Z<|aW Z<|aW Z<|gT Z<|aO<|jV (true) () h SF Z
  refine gW Z<|bB Z (zW Z Z) Z<|iV Z<|aA Z<|IX h Z (λ_ h=>?_) λ_ h=>?_
  .exact aW Z<|aW Z<|aW Z<|aW Z<|aW Z<|gT Z<|aO<|jV (true) () h SF Z
  exact bB Z (dN Z Z Z Z Z) Z<|bB Z (eI 0 Z Z Z Z Z) Z<|bB Z (fR Z (n_ Z) Z) Z<|gW Z<|bB Z (Ij Z Z) Z<|iV Z<|aO<|jV (decide ((p0.2.length:Int)≠(p0.1.length:Int))) () h SF Z
 intro b m h;refine Ag h Z (λ_ h=>?_) λ_ h=>?_
 .refine Q4 Z<|aV<|aM ?_;cases h;exact uC Z
 refine cU<|aL<|fV (λd=>rX d=some r) (λd n=>[(2,vB (d))]) (λd n=>[]) ?_ ?_
 .refine aP<|bZ Z<|dO 0 Z<|fF h λp i h=>aI (zBj aej (GU U f p i) Z (jJ [0] Z)) Z λq=>aA Z<|Ai (by exact rfl) (by exact rfl) (λa=>?_) (λa=>?_)
  .have h:=ME a h;exact bB Z (dN Z Z Z Z Z) Z<|bB Z (eI 0 Z Z Z Z Z) Z<|fF h λe j h=>yM Z (zBj aek (JW U g o e j) Z (jJ [1] Z)) Z λs=>gT Z<|Q5 Z<|cD (e) () h SF .nil (aD.refl _ _)
  have h:=Jy a h;exact aW Z<|aW Z<|aW Z<|iV Z<|Q5 Z<|cD (false) () h SF .nil (aD.refl _ _)
 intro d n h;unfold rX at h;refine aV ?_;cases h;exact oA Z
def tZ (a:Int):V1 (Int):=
 some (a)
def dH (U:Nat) (b a:Int):V1 (Int):=
 if a<(1:Int)then(some (0:Int))else(ck (a≠0) (if(Int.tmod b a)<(0:Int)then(tZ (wI .i64 ((Int.tmod b a)+a)))else(tZ (Int.tmod b a))))
theorem xR:aU prog 13:=call13
theorem fL {d b:Int} (r:Int) (h:dH U d b=some r):
  aZ prog 13 #[vI (d),vI (b)] [] (λx:Unit=>vI (r)) (λx l=>l) (λ_ l=>l):=by
 refine aZ.of func13 Z ntmps13 Z λc=>Q4 Z<|aL<|Q6 Z<|cN Z<|aO<|gC h Z (λh=>?_) λh=>?_
 .refine Q4 Z<|aV<|aM ?_;cases h;exact oA Z
 refine cU<|Q6 Z<|aA Z<|dQ h λf h=>aB (SU Z Z f) Z<|Q5 Z<|aL<|fV (λa=>tZ a=some r) (λa e=>[(0,vI (a))]) (λa e=>[]) ?_ ?_
 .refine Q6 Z<|cN Z<|aO<|gC h Z (λh=>?_) λh=>?_
  .exact aP<|aA Z<|aA Z<|cH Z<|Q5 Z<|jV (wI .i64 ((Int.tmod d b)+b)) () h SF Z
  exact cU<|jV (Int.tmod d b) () h SF Z
 intro a e h;unfold tZ at h;refine Q6 Z<|Q5 Z<|aV ?_;cases h;exact oA Z
def vR (U:Nat) (b:aX) (a:Int):V1 (Int):=
 if a<(b.length:Int)then(ck (0<=a/\a<(b.length:Int)) (some (at' b a)))else(some (0:Int))
theorem Nk:aU prog 65:=call65
theorem Dy {b:aX} {d:Int} (e:V0) (r:Int) (h:vR U b d=some r):
  aZ prog 65 #[e,vI (d)] [Sl aK e b] (λx:Unit=>vI (r)) (λx l=>l) (λ_ l=>l):=by
 refine aZ.of func65 Z ntmps65 Z λc=>Q4 Z<|aL<|Q6 Z<|aA Z<|jH (cP Z) Z<|cN Z<|aO<|gC h Z (λh=>?_) λh=>?_
 .refine Q6 Z<|aA Z<|dQ h λa h=>aB (bD Z Z (cP Z) Z Z a) Z<|aB (bY Z (cP Z) Z Z Z dJ a) Z<|Q5 Z<|aV<|aM ?_;cases h;exact oA Z
 refine cU<|Q4 Z<|aV ?_;cases h;exact oA Z
def qJ (b:Int) (a:aX):V1 xM:=
 some ((a,(List.replicate (Int.toNat (wI .i64 ((1:Int)+b))) ([]:iF))))
def vD (a:nD) (c:tV->V1 xM) (b:Int):V1 xM:=
 ck ((a.2.length:Int)+(List.length ([b]):Int)<=1099511627) (c ((wI .i64 (a.1+(1:Int))),(a.2++[b])))
def mP (b:iU->V1 xM) (a:e_):V1 xM:=
 b (a.1,(wI .i64 (a.2+(1:Int))))
def mQ (b:nD) (d:tV->V1 xM) (a:e_) (c:iU->V1 xM):V1 xM:=
 if a.2<b.1 then(ck (0<=a.2/\a.2<(b.2.length:Int)) (if(at' b.2 a.2)=a.1 then(ck ((256:Int)≠0) (mP c ((Int.tmod (wI .i64 (a.1+(1:Int))) (256:Int)),(-1:Int))))else(mP c (a.1,a.2))))else(vD b d (a.1))
def kL (f:Ae) (e:Int) (a:nD) (b:tV->V1 xM):V1 xM:=
 if a.1<(wI .i64 ((1:Int)+e))then(Option.bind (vR U f.2.2.2.1 a.1) λc=>(Option.bind (dH U c (256:Int)) λd=>(bE (mQ a b) U (d,(0:Int)))))else(qJ e (a.2))
def rI (b:Ae) (c:Int):V1 xM:=
 Option.bind (dH U (wI .i64 (b.1 - (1:Int))) c) λa=>(ck (0<=(wI .i64 ((1:Int)+a))/\(wI .i64 ((1:Int)+a))<=1099511627) (bE (kL U b a) U ((0:Int),([]:aX))))
theorem ahv:aU prog 63:=call63
theorem Ib {k:Ae} {p1:Int} (R S Q:V0) (r:FY) (h:rI U k p1=some r):
  aZ prog 63 #[Value.agg #[vI (k.1),R,S,Q,vB (k.2.2.2.2.1),vB (k.2.2.2.2.2)],vI (p1)] [Sl aK R k.2.1,Sl aK S k.2.2.1,Sl aK Q k.2.2.2.1] (λx:V0×V0×V6 V0=>Value.agg #[x.1,x.2.1]) (λx l=>Ar cY x.1 r.1::Ar bN.raw x.2.1 x.2.2::hJ bW x.2.2 r.2::l) (λ_ l=>l):=by
 refine aZ.of func63 Z ntmps63 Z λc=>aT<|aI (aN.box (cs:=[vI (k.1),R,S,Q,vB (k.2.2.2.2.1),vB (k.2.2.2.2.2)]) Z Z) Z λF=>let t:=bG F [vI (k.1),R,S,Q,vB (k.2.2.2.2.1),vB (k.2.2.2.2.2)] 24;aI (aN.alloc (cs:=[eB,eB]) Z Z) Z λE=>let s:=bG E [eB,eB] 31;aO<|aT<|bZ Z<|dO 1 Z<|aB (zM Z Z) Z<|aA Z<|fF h λP w4 h=>let p:=(wI .i64 ((1:Int)+P));let C:=(Int.toNat p);let y:=(List.replicate C (eB));let o:=hJ bW y (List.replicate C ([]:iF));aI (zBj xR (fL U P w4) Z .nil) Z λx5=>cH Z<|Q5 Z<|Q6 Z<|dQ h λj6 h=>cQ (BU bW C)<|aI (sV (e:=bN.raw) (eB) Z Z Z Z j6 Z Z Z) Z λv=>let q:=Ar bN.raw v y;bO (BH (fQ (i:=0) (j:=1) Z Z cA)) λT=>?_
 refine aB (Ve (r:=Value.agg #[eB,v]) Z (by intro w;simp[Instr.build,Instr.fill,dU,c_,cO,dV,dW,dC,eV,iK T])) Z ?_;refine aI (aN.alloc (cs:=[eB,eB]) Z Z) Z λu=>bO (BH (fQ (i:=1) (j:=2) Z Z cA)) λJ=>bP 0 (vs:=[eB,v]) Z Z (iZ Z (iZ J Z)) Z Z Z<|aO<|aL<|HU (B:=V0) (λn=>qJ P n=some r) (λn m=>[(4,vP E),(6,vP u)]) (λn m=>[bG u [m,v] 31,q,o,s,Ar cY m n]) ?_ ?_
 .refine Q4 Z<|aQ<|cQ (iJ cY)<|fT (B:=V0) (kL U k P) (λa g=>[(2,vP F),(4,vP E),(5,vI p),(6,vP u),(7,vI (a.1))]) (λa g=>[bG u [g,v] 31,q,o,s,t,Ar cY g a.2]) ((0:Int),([]:aX)) (eB) h SF (aS.ix [1,2,3,4,5,0] Z Z) ?_;intro X a g h;let D:=Ar cY g a.2;let A:=bG u [g,v] 31;let z:=(bE (kL U k P) X)
  refine aL<|Q6 Z<|aA Z<|cN Z<|aO<|gC h Z (λh=>?_) λh=>?_
  .refine cU<|aL<|aQ<|aT<|bZ Z<|dO 4 Z<|aA Z<|fF h λaa ac h=>aI (zBj Nk (Dy U Q aa ac) Z (jJ [2] Z)) Z λaf=>fF h λO ad h=>aI (zBj xR (fL U O ad) Z .nil) Z λag=>Q5 Z<|aL<|fV (λb=>vD a z b=some r) (λb G=>[(2,vP F),(4,vP E),(5,vI p),(6,vP u),(7,vI (a.1)),(8,vI (b))]) (λb G=>[A,q,o,s,t,D]) ?_ ?_
   .refine Q4 Z<|aQ<|fT (mQ a z) (λd H=>[(2,vP F),(4,vP E),(5,vI p),(6,vP u),(7,vI (a.1)),(8,vI (d.1)),(9,vI (d.2))]) (λd H=>[A,q,o,s,t,D]) (O,(0:Int)) () h SF (aS.refl _) ?_;intro Y d H h;refine aL<|Q6 Z<|aA Z<|cN Z<|aO<|gC h Z (λh=>?_) λh=>?_
    .refine cU<|aL<|fV (λf=>mP (bE (mQ a z) Y) f=some r) (λf I=>[(2,vP F),(4,vP E),(5,vI p),(6,vP u),(7,vI (a.1)),(8,vI (f.1)),(9,vI (f.2))]) (λf I=>[A,q,o,s,t,D]) ?_ ?_
     .refine aQ<|aT<|bZ Z<|dO 0 Z<|aA Z<|dQ h λN h=>aB (bD Z Z (bI (aH.res 5 Z) eP) Z Z N) Z<|aB (bY Z (bI (aH.res 5 Z) eP) Z Z Z dJ N) Z<|aA Z<|d_ Z<|aO<|gC h Z (λh=>?_) λh=>?_
      .exact aP<|aA Z<|cH Z<|dQ h λW h=>aB (SU Z Z W) Z<|aC Z<|aC Z<|fC<|mF<|jV ((Int.tmod (wI .i64 (d.1+(1:Int))) (256:Int)),(-1:Int)) () h SF Z
      exact eK<|mF<|jV (d.1,d.2) () h SF Z
     intro f I h;unfold mP at h;exact aP<|aA Z<|cH Z<|Q5 Z<|Ci (f.1,(wI .i64 (f.2+(1:Int)))) () h SF Z
    exact fH<|jV (d.1) () h SF Z
   intro b G h;exact aP<|bZ Z<|dO 0 Z<|aA Z<|aI (cC (e:=cY) ([b]) [(0,vI (b))] Z Z Z Z (kY (vI (b)) Z) Z Z Z) Z λae=>dQ h λV h=>aI (gU 6 eP Z Z Z (bI (aH.res 0 Z) eP) Z Z Z Z V Z) Z λab=>bZ Z<|bO (Know.one ((bI (aH.res 6 Z) eP))) λM=>iB 1 Z Z M Z Z Z<|fC<|mF<|aP<|aA Z<|cH Z<|Q5 Z<|gA ((wI .i64 (a.1+(1:Int))),(a.2++[b])) (ab) h SF (aS.ix [1,2,3,4,5,6] Z Z) (aD.refl _ _)
  exact fH<|cD (a.2) (g) h SF (aS.ix [0,1,2,3,5] Z Z) (aD.refl _ _)
 intro n m h;unfold qJ at h;refine aT<|cL 0 Z<|bO (Know.one ((bI (aH.res 4 Z) eP))) λK=>bO (BH (fQ (i:=1) (j:=2) Z Z cA)) λL=>bP 3 (vs:=[m,v]) Z Z (iZ K (iZ L Z)) Z Z Z<|aO<|aV ?_;cases h;exact fD (m,v,y) Z Z (RV.cell 3 Z Z Z Z) (aS.ix [4,1,2] Z Z) aD.nil
def zK (a:Unit):V1 V4:=
 some (false)
def Cw (c:b_) (a e b:Int) (d:(Int)->V1 V4):V1 V4:=
 ck (0<=a/\a<(c.2.length:Int)) (if b<((at' c.2 a).length:Int)then(ck (0<=a/\a<(c.2.length:Int)) (ck (0<=b/\b<((at' c.2 a).length:Int)) (if((at' (at' c.2 a) b).1)=e then(some (true))else(d (wI .i64 (b+(1:Int)))))))else(zK (())))
def oZ (a:b_) (b c:Int):V1 V4:=
 bE (Cw a b c) U (0:Int)
theorem aeh:aU prog 106:=call106
theorem Ov {g:b_} {i j:Int} (k m:V0) (q:kI) (r:V4) (h:oZ U g i j=some r):
  aZ prog 106 #[Value.agg #[k,m],vI (i),vI (j)] [Sl aK k g.1,S2 aR m q g.2] (λx:Unit=>vB (r)) (λx l=>l) (λ_ l=>l):=by
 refine aZ.of func106 Z ntmps106 Z λc=>?_;unfold oZ at h;refine aT<|aI (aN.box (cs:=[k,m]) Z Z) Z λn=>Q5 Z<|aL<|fV (λd=>zK d=some r) (λd o=>[]) (λd o=>[]) ?_ ?_
 .refine Q4 Z<|aQ<|fT (Cw g i j) (λe p=>[(1,vI (i)),(2,vI (j)),(3,vP n),(7,vI (e))]) (λe p=>[bG n [k,m] 31]) (0:Int) () h SF (aS.refl _) ?_;intro s e p h;refine aL<|Q6 Z<|bZ Z<|dO 0 Z<|aA Z<|dQ h λf h=>aB (bX Z Z (n_ Z) Z Z f) Z<|aB (cB Z (n_ Z) Z Z f) Z<|aB (eW Z (zBk (n_ Z) f.1 f.2) Z) Z<|cN Z<|aO<|gC h Z (λh=>?_) λh=>?_
  .refine cU<|aL<|aQ<|aT<|bZ Z<|dO 0 Z<|aA Z<|dQ h λa h=>aB (bX Z Z (n_ Z) Z Z a) Z<|aB (cB Z (n_ Z) Z Z a) Z<|aA Z<|dQ h λb h=>aB (bD Z Z (zBk (n_ Z) a.1 a.2) Z Z b) Z<|aB (lF Z Z Z Z Z) Z<|aB (nR Z (zBk (n_ Z) a.1 a.2) Z Z Z Br b) Z<|aA Z<|d_ Z<|aO<|gC h Z (λh=>?_) λh=>?_
   .refine Q4 Z<|aV<|bU<|aM<|aM<|bU<|aM ?_;cases h;exact uC Z
   exact eK<|mF<|aP<|aA Z<|cH Z<|Q5 Z<|Ci (wI .i64 (e+(1:Int))) () h SF Z
  exact fH<|cD () (()) h SF .nil (aD.refl _ _)
 intro d o h;unfold zK at h;refine Q4 Z<|aV ?_;cases h;exact oA Z
def rD (f:Ae) (c:b_) (a b d:Int) (e:V4):V1 (gY):=
 if e=true then(some (c.2))else(if f.2.2.2.2.2=true then(ck (0<=a/\a<(c.2.length:Int)) (ck ((List.length ([(b,d)]):Int)+((at' c.2 a).length:Int)<=1099511627) (ck (0<=a/\a<(c.2.length:Int)) (ck (0<=b/\b<((List.set c.2 (Int.toNat a) (([(b,d)])++(at' c.2 a))).length:Int)) (ck ((List.length ([(a,d)]):Int)+((at' (List.set c.2 (Int.toNat a) (([(b,d)])++(at' c.2 a))) b).length:Int)<=1099511627) (ck (0<=b/\b<((List.set c.2 (Int.toNat a) (([(b,d)])++(at' c.2 a))).length:Int)) (some (List.set (List.set c.2 (Int.toNat a) (([(b,d)])++(at' c.2 a))) (Int.toNat b) (([(a,d)])++(at' (List.set c.2 (Int.toNat a) (([(b,d)])++(at' c.2 a))) b))))))))))else(ck (0<=a/\a<(c.2.length:Int)) (ck (0<=b/\b<(c.2.length:Int)) (ck (((at' c.2 a).length:Int)+(List.length ([(b,d)]):Int)<=1099511627) (ck (((at' c.2 b).length:Int)+(List.length ([(a,d)]):Int)<=1099511627) (ck (Int.toNat a≠Int.toNat b) (ck (0<=a/\a<((List.set (List.set c.2 (Int.toNat a) ((at' c.2 a)++([(b,d)]))) (Int.toNat b) ((at' c.2 b)++([(a,d)]))).length:Int)) (ck (0<=b/\b<((List.set (List.set c.2 (Int.toNat a) ((at' c.2 a)++([(b,d)]))) (Int.toNat b) ((at' c.2 b)++([(a,d)]))).length:Int)) (some (List.set (List.set c.2 (Int.toNat a) ((at' c.2 a)++([(b,d)]))) (Int.toNat b) ((at' c.2 b)++([(a,d)]))))))))))))
def oU (e:Ae) (a:b_) (b c f:Int):V1 (gY):=
 if b=c then(rD e a b c f (true))else(Option.bind (oZ U ((a.1,a.2)) b c) λd=>(rD e a b c f (d)))
theorem aaJ:aU prog 64:=call64
theorem Du (U:Nat) {a:Ae} {G:b_} {m n d:Int} (J K L H D:V0) (E:gE) (r:gY) (h:oU U a G m n d=some r):
  Ch prog 64 #[Value.agg #[vI (a.1),J,K,L,vB (a.2.2.2.2.1),vB (a.2.2.2.2.2)],Value.agg #[H,D],vI (m),vI (n),vI (d)] [Ar bN.raw D E,hJ bW E G.2] [Sl aK J a.2.1,Sl aK K a.2.2.1,Sl aK L a.2.2.2.1,Sl aK H G.1] (λx:gE=>Value.tuple #[]) (λx l=>Ar bN.raw D x::hJ bW x r::l):=by
 let ae:=Value.agg #[vI (m),vI (d)];let ad:=Value.agg #[vI (n),vI (d)];refine Ch.of (vs:=[Value.agg #[vI (a.1),J,K,L,vB (a.2.2.2.2.1),vB (a.2.2.2.2.2)],Value.agg #[H,D],vI (m),vI (n),vI (d)]) func64 Z ntmps64 Z λc=>?_;refine aT<|aI (aN.box (cs:=[vI (a.1),J,K,L,vB (a.2.2.2.2.1),vB (a.2.2.2.2.2)]) Z Z) Z λb1=>aI (aN.box (cs:=[H,D]) Z Z) Z λb2=>aO<|aL<|aL<|lN (B:=Unit) (λI=>rD a G m n d I=some r) (λI b5=>[(2,vI (m)),(3,vI (n)),(4,vI (d)),(5,vP b1),(6,vP b2),(20,vB (I))]) (λI b5=>[bG b2 [H,D] 31,bG b1 [vI (a.1),J,K,L,vB (a.2.2.2.2.1),vB (a.2.2.2.2.2)] 24,Ar bN.raw D E,hJ bW E G.2]) (λI b5=>[Sl aK J a.2.1,Sl aK K a.2.2.1,Sl aK L a.2.2.2.1,Sl aK H G.1]) ?_ ?_
 .refine aP<|aA Z<|aA Z<|d_ Z<|aA Z ?_;refine IX h Z (λ_ h=>?_) λ_ h=>?_
  .refine aW Z<|aW Z<|aW Z<|aW Z<|gT Z<|aO ?_;exact jV (true) () h SF Z
  refine bB Z (eH 0 Z Z Z Z) Z<|gW Z<|gW Z<|fF h λaf ac h=>yM Z (zBj aeh (Ov U H D (List.zip E G.2) af ac) Z (aD.cons (DJ Z) (aD.cons (fQ (i:=2) (j:=3) Z Z cA) .nil))) Z λau=>iV Z<|aO ?_;exact jV (af) () h SF Z
 intro I b5 h;refine Ag h Z (λ_ h=>?_) λ_ h=>?_
 .refine aV<|aM ?_;cases h;exact Ml (E) Z Z .ret (.inl Z) (aS.ix [2,3] Z Z) aD.nil
 refine cU<|aT<|aA Z<|aA Z ?_;refine aB (EZ (r:=Value.agg #[vI (n),vI (d)]) Z Z (by intro w;simp[Instr.build,Instr.fill,dU,c_,cO,dV,dW,dC,eV])) Z ?_;refine aA Z<|aA Z ?_;refine aB (EZ (r:=Value.agg #[vI (m),vI (d)]) Z Z (by intro w;simp[Instr.build,Instr.fill,dU,c_,cO,dV,dW,dC,eV])) Z ?_;refine aI (aN.alloc (cs:=MN) Z Z) Z λb7=>aI (aN.alloc (cs:=MN) Z Z) Z λb8=>bP 1 (vs:=[vI (n),vI (d)]) Z Z Z Z Z Z<|bP 0 (vs:=[vI (m),vI (d)]) Z Z Z Z Z Z<|aO<|aL<|aT<|bZ Z<|dO 3 Z<|aO ?_;refine Ag h Z (λ_ h=>?_) λ_ h=>?_
 .refine aL ?_;refine Bf [0,1,0,0,8,0,32,0,224,480,1016,2047,4095] 11 mixedOrders ?_;refine cT Z<|gN 2 Z<|bM Z<|sP 1 Z<|zBl Z Z Z (cC (e:=bW) ([((n,d))]) [(0,ad)] Z Z Z Z (Jt (vI (n)) (vI (d))) Z Z Z) Z (λan=>(oP [([3],[])] Z)) λan=>jS Z (dN Z Z Z Z Z)<|aY Z (aS.cons 3 Z .nil) .nil (eI 0 Z Z Z Z Z) (aJ.h (aS.ix [2] Z Z) .nil aJ.z)<|jS Z (f_ Z)<|dQ h λt h=>bQ (eQ 6 Z) λM=>?_;refine aY Z (aS.cons 5 Z .nil) .nil (x_ 0 Z Z Z Z Z t.1 (by have y:=t.2;have A:=M;(try simp only[zA3]at y);(try simp only[zA3]at A);(try simp only[zA3]);omega)) (aJ.h (aS.ix [4] Z Z) .nil aJ.z) ?_;refine bQ (eQ 6 Z) λN=>aY Z (aS.cons 5 Z .nil) .nil (m_ 0 Z Z N Z Z t) (aJ.h (aS.ix [4] Z Z) .nil aJ.z)<|dQ h λaj h=>zBl Z Z Z (gU 0 cA Z Z Z (aH.row (j:=6) Z cA t.1 t.2) Z Z Z Z aj Z) Z (λag=>(oP [([3],[])] Z)) λag=>bS 11 Z Z<|dQ h λu h=>aB (bX Z Z (fQ (i:=5) (j:=6) Z Z cA) Z Z u) Z<|bO (Know.one ((bI (aH.res 0 Z) cA))) λX=>cQ (Dc (k:=m) 6 0 Z Z Z u) ?_;refine Bq 4 5 ⟨u.1,by first|exact u.2|simpa using u.2⟩ Z Z Z Z Z (by simp) X Z ?_;refine aO<|aL ?_;refine Bf [0,1,0,0,8,0,32,0,224,480,1016,2047,4095] 11 mixedOrders ?_;refine cT Z<|gN 2 Z<|bM Z<|sP 0 Z<|zBl Z Z Z (cC (e:=bW) ([((m,d))]) [(0,ae)] Z Z Z Z (Jt (vI (m)) (vI (d))) Z Z Z) Z (λao=>(oP [([3],[])] Z)) λao=>jS Z (dN Z Z Z Z Z)<|aY Z (aS.cons 3 Z .nil) .nil (eI 0 Z Z Z Z Z) (aJ.h (aS.ix [2] Z Z) .nil aJ.z)<|jS Z (f_ Z)<|dQ h λp h=>bQ (eQ 6 Z) λO=>?_;refine aY Z (aS.cons 5 Z .nil) .nil (x_ 0 Z Z Z Z Z p.1 (by have y:=p.2;have A:=O;(try simp only[zA3]at y);(try simp only[zA3]at A);(try simp only[zA3]);omega)) (aJ.h (aS.ix [4] Z Z) .nil aJ.z) ?_;refine bQ (eQ 6 Z) λP=>aY Z (aS.cons 5 Z .nil) .nil (m_ 0 Z Z P Z Z p) (aJ.h (aS.ix [4] Z Z) .nil aJ.z)<|dQ h λak h=>zBl Z Z Z (gU 0 cA Z Z Z (aH.row (j:=6) Z cA p.1 (by first|exact p.2|simpa using p.2)) Z Z Z Z ak Z) Z (λah=>(oP [([3],[])] Z)) λah=>?_;refine bS 11 Z Z<|dQ h λv h=>aB (bX Z Z (fQ (i:=5) (j:=6) Z Z cA) Z Z v) Z<|bO (Know.one ((bI (aH.res 0 Z) cA))) λY=>cQ (Dc (k:=n) 6 0 Z Z Z v) ?_;refine Bq 4 5 ⟨v.1,by first|exact v.2|simpa using v.2⟩ Z Z Z Z Z (by simp) Y Z ?_;refine aO<|aV<|aM ?_;cases h;exact Ml (List.set (List.set E (Int.toNat m) ag) (Int.toNat n) ah) Z Z .ret (.inl Z) (aS.ix [4,5] Z Z) aD.nil
 refine cU<|dQ h λq h=>dQ h λC h=>dQ h λF h=>dQ h λal h=>dQ h λam h=>dQ h λf h=>dQ h λg h=>Er [0,1,0,0,8,0,0,64,0,448,960,0,2048,8128,0,16384,0,114688,245760,0,524288,2097088,4194247,8388551,16777215,33554431] 24 [[0,1,2,3,4,5,6,7,8,9,10,11,14,15,16,17,18,19,12,13,20,21,22,23,24,25],[0,1,2,3,4,5,6,7,8,9,10,11,14,15,16,17,18,19,12,20,13,21,22,23,24,25],[0,1,2,3,4,5,6,7,8,9,10,11,14,15,16,17,18,19,20,12,13,21,22,23,24,25]] mixedOrders (by decide +kernel) (by decide +kernel) ?_;intro o ho;simp only[zAn,zAz,or_false]at ho;rcases ho with rfl|rfl|rfl
 all_goals
  iterate 24 first
   |refine aY (i:=0) Z .nil .nil (dN Z Z Z Z Z) aJ.z ?_
   |refine aY (i:=1) Z (aS.cons 2 Z .nil) .nil (eI 0 Z Z Z Z Z) aJ.z ?_
   |refine aY (i:=2) Z .nil .nil (f_ Z) aJ.z ?_
   |refine aY (i:=3) Z .nil .nil (dN Z Z Z Z Z) aJ.z ?_
   |refine aY (i:=4) Z (aS.cons 2 Z .nil) .nil (eI 0 Z Z Z Z Z) aJ.z ?_
   |refine aY (i:=5) Z .nil .nil (f_ Z) aJ.z ?_
   |refine aY (i:=6) Z .nil .nil (dN Z Z Z Z Z) aJ.z ?_
   |refine aY (i:=7) Z (aS.cons 2 Z .nil) .nil (eI 0 Z Z Z Z Z) aJ.z ?_
   |refine aY (i:=8) Z .nil .nil (f_ Z) aJ.z ?_
   |refine bQ (eQ 5 Z) λQ=>?_
    refine aY (i:=9) Z (aS.cons 4 Z .nil) .nil (x_ 0 Z Z Z Z Z q.1 (by have y:=q.2;have A:=Q;(try simp only[zA3]at y);(try simp only[zA3]at A);(try simp only[zA3]);omega)) aJ.z ?_
   |refine bQ (eQ 5 Z) λR=>?_
    refine aY (i:=10) Z (aS.cons 4 Z .nil) .nil (m_ 0 Z Z R Z Z q) aJ.z ?_
   |refine aY (i:=11) Z (aS.cons 1 Z .nil) .nil (eH 0 Z Z Z Z) aJ.z ?_
   |refine zBl (i:=12) Z Z Z (cC (e:=bW) ([((n,d))]) [(0,ad)] Z Z Z Z (Jt (vI (n)) (vI (d))) Z Z Z) Z (λap=>(by first|exact oC.h (aS.ix [1] Z Z) .nil (oP [([5],[]),([5],[]),([3],[]),([5],[]),([5],[]),([3],[]),([3],[]),([3],[])] Z)|exact oC.h (aS.ix [2] Z Z) .nil (oP [([6],[]),([6],[]),([4],[]),([6],[]),([6],[]),([4],[]),([4],[]),([4],[])] Z))) λap=>?_
   |first
     |refine zBl (i:=13) Z Z Z (tH 6 cA Z Z Z (bI (aH.res 0 Z) cA) Z Z Z Z q F Z) Z (λs=>(oP [([1],[]),([5],[]),([5],[]),([3],[]),([3],[]),([3],[])] Z)) λs=>?_
     |refine zBl (i:=13) Z Z Z (tH 7 cA Z Z Z (bI (aH.res 1 Z) cA) Z Z Z Z q F Z) Z (λs=>(oP [([2],[]),([6],[]),([6],[]),([4],[]),([4],[]),([4],[])] Z)) λs=>?_
     |refine zBl (i:=13) Z Z Z (tH 7 cA Z Z Z (bI (aH.res 0 Z) cA) Z Z Z Z q F Z) Z (λs=>(oP [([2],[]),([6],[]),([6],[]),([4],[]),([4],[]),([4],[])] Z)) λs=>?_
   |refine aY (i:=14) Z .nil .nil (dN Z Z Z Z Z) aJ.z ?_
   |refine aY (i:=15) Z (aS.cons 2 Z .nil) .nil (eI 0 Z Z Z Z Z) aJ.z ?_
   |refine aY (i:=16) Z .nil .nil (f_ Z) aJ.z ?_
   |refine bQ (eQ 5 Z) λS=>?_
    refine aY (i:=17) Z (aS.cons 4 Z .nil) .nil (x_ 0 Z Z Z Z Z C.1 (by have y:=C.2;have A:=S;(try simp only[zA3]at y);(try simp only[zA3]at A);(try simp only[zA3]);omega)) aJ.z ?_
   |refine bQ (eQ 5 Z) λT=>?_
    refine aY (i:=18) Z (aS.cons 4 Z .nil) .nil (m_ 0 Z Z T Z Z C) aJ.z ?_
   |refine aY (i:=19) Z (aS.cons 0 Z .nil) .nil (eH 0 Z Z Z Z) aJ.z ?_
   |refine zBl (i:=20) Z Z Z (cC (e:=bW) ([((m,d))]) [(0,ae)] Z Z Z Z (Jt (vI (m)) (vI (d))) Z Z Z) Z (λaq=>(by first|exact oC.b Z (oP [([6],[]),([6],[]),([4],[]),([3],[]),([6],[]),([6],[]),([4],[]),([4],[]),([4],[])] Z)|exact oC.b Z (oP [([5],[]),([5],[]),([3],[]),([2],[]),([5],[]),([5],[]),([3],[]),([3],[]),([3],[])] Z))) λaq=>?_
   |refine zBl (i:=21) Z Z Z (LZ (j:=m) 7 cA Z Z Z (by first|exact bI (aH.res 0 Z) cA|exact bI (aH.res 1 Z) cA) Z Z Z Z C al Z am) Z (λai=>(oP [([4],[]),([4],[])] Z)) λai=>?_
   |refine bQ (eQ 7 Z) λV=>?_
    refine aY (i:=22) Z (aS.cons 6 Z .nil) .nil (x_ 0 Z Z Z Z Z f.1 (by have y:=f.2;have A:=V;(try simp only[zA3]at y);(try simp only[zA3]at A);(try simp only[zA3]);omega)) (KH Z) ?_
   |refine bQ (QC (k:=m) (j:=n) 7 Z (by omega) ⟨f.1,by first|exact f.2|simpa using f.2⟩) λaa=>?_
    refine Gl (i:=23) Z Z Z (OH 6 7 ⟨f.1,by first|exact f.2|simpa using f.2⟩ Z Z Z Z (by simp) aa Z) (λar=>(oP [([4],[])] Z)) λar=>?_
  refine bS 24 Z Z<|bO (eQ 7 Z) λW=>?_;refine aB (x_ 6 Z Z Z Z Z g.1 (by have y:=g.2;have A:=W;(try simp only[zA3]at y);(try simp only[zA3]at A);(try simp only[zA3]);omega)) Z ?_;refine bO (Ls 7 (k:=n) Z ⟨g.1,by first|exact g.2|simpa using g.2⟩) λab=>?_;refine Bq 6 7 ⟨g.1,by first|exact g.2|simpa using g.2⟩ Z Z Z Z Z (by simp) ab Z ?_;refine fC ?_;cases h;exact Ml (List.set (List.set E (Int.toNat m) s) (Int.toNat n) ai) Z Z .normal (.inr Z) (aS.ix [6,7] Z Z) aD.nil
def rC (b:FY) (a:gY):V1 xM:=
 some ((b.1,a))
def xP (b:Ae) (i:FY) (a:Int×gY) (c:(Int×gY)->V1 xM):V1 xM:=
 if a.1<(a.2.length:Int)then(Option.bind (vR U b.2.1 (wI .i64 (a.1 - (1:Int)))) λd=>(Option.bind (dH U d a.1) λe=>(Option.bind (vR U b.2.2.1 (wI .i64 (a.1 - (1:Int)))) λf=>(Option.bind (dH U f (15:Int)) λg=>(Option.bind (oU U ((b.1,b.2.1,b.2.2.1,b.2.2.2.1,b.2.2.2.2.1,b.2.2.2.2.2)) ((i.1,a.2)) e a.1 (wI .i64 ((1:Int)+g))) λh=>(c ((wI .i64 (a.1+(1:Int))),h)))))))else(rC i (a.2))
def oT (a:Ae) (c:Int):V1 xM:=
 Option.bind (rI U ((a.1,a.2.1,a.2.2.1,a.2.2.2.1,a.2.2.2.2.1,a.2.2.2.2.2)) c) λb=>(bE (xP U a b) U ((1:Int),b.2))
theorem aaA:aU prog 24:=call24
theorem Dt (U:Nat) {p0:Ae} {p1:Int} (n o p:V0) (r:FY) (h:oT U p0 p1=some r):
  aZ prog 24 #[Value.agg #[vI (p0.1),n,o,p,vB (p0.2.2.2.2.1),vB (p0.2.2.2.2.2)],vI (p1)] [Sl aK n p0.2.1,Sl aK o p0.2.2.1,Sl aK p p0.2.2.2.1] (λx:V0×V0×List V0=>Value.agg #[x.1,x.2.1]) (λx l=>Ar cY x.1 r.1::Ar bN.raw x.2.1 x.2.2::hJ bW x.2.2 r.2::l) (λ_ l=>l):=by
 refine aZ.of func24 Z ntmps24 Z λc=>?_;refine aT<|aI (aN.box (cs:=[vI (p0.1),n,o,p,vB (p0.2.2.2.2.1),vB (p0.2.2.2.2.2)]) Z Z) Z λR=>let t:=bG R [vI (p0.1),n,o,p,vB (p0.2.2.2.2.1),vB (p0.2.2.2.2.2)] 24;aI (aN.alloc (cs:=[eB,eB]) Z Z) Z λw=>let k:=bG w [eB,eB] 31;aO<|aT<|cL 1 Z<|aA Z<|fF h λu T h=>aI (zBj ahv (Ib U n o p u T) Z (jJ [0,1,2] Z)) Z λd=>let m:=Ar cY d.1 u.1;aI (aN.alloc (cs:=[eB,eB]) Z Z) Z λy=>let g:=bG y [d.1,d.2.1] 31;bO (Know.one ((bI (aH.res 1 Z) eP))) λA=>bO (BH (fQ (i:=2) (j:=3) Z Z cA)) λC=>bP 0 (vs:=[d.1,d.2.1]) Z Z (iZ A (iZ C Z)) Z Z Z<|aO<|aL<|HU (B:=gE) (λe=>rC u e=some r) (λe f=>[(4,vP w),(5,vP y)]) (λe f=>[g,m,Ar bN.raw d.2.1 f,hJ bW f e,k]) ?_ ?_
 .refine aT<|aC Z<|aO<|aQ<|fT (B:=gE) (xP U p0 u) (λb a=>[(2,vP R),(4,vP w),(5,vP y),(6,vI (b.1))]) (λb a=>[g,m,Ar bN.raw d.2.1 a,hJ bW a b.2,k,t]) ((1:Int),u.2) (d.2.2) h SF (aS.refl _) ?_;intro S b a h;refine aL<|aT<|aA Z<|bZ Z<|dO 0 Z<|aB (fR Z (fQ (i:=2) (j:=3) Z Z cA) Z) Z<|cN Z<|aO ?_;refine gC h Z (λh=>?_) λh=>?_
  .refine cU<|aL<|aQ ?_;refine Bf [0,0,0,4,0,16,60,0,252,0,0,1024,0,4096,15868,32252,65020,131071] 17 mixedOrders ?_;refine sP 5 Z<|sP 0 Z<|cT Z<|gN 5 Z<|bM Z<|jS Z (zM Z Z)<|fF h λD H h=>zBl Z Z Z (zBj Nk (Dy U n D H) Z (jJ [0] Z)) Z (λM=>(oP [([0],[]),([5],[])] Z)) λM=>jS Z (f_ Z)<|fF h λE I h=>zBl Z Z Z (zBj xR (fL U E I) Z .nil) Z (λN=>(oP [([0],[]),([5],[])] Z)) λN=>jS Z (f_ Z)<|jS Z (dN Z Z Z Z Z)<|aY Z (aS.cons 5 Z .nil) .nil (eI 0 Z Z Z Z Z) (aJ.h (aS.ix [5] Z Z) .nil (aJ.h (aS.ix [5] Z Z) .nil aJ.z))<|jS Z (f_ Z)<|jS Z (zM Z Z)<|fF h λF J h=>zBl Z Z Z (zBj Nk (Dy U o F J) Z (jJ [1] Z)) Z (λO=>(oP [([0],[]),([5],[])] Z)) λO=>fF h λG K h=>zBl Z Z Z (zBj xR (fL U G K) Z .nil) Z (λP=>(oP [([0],[]),([5],[])] Z)) λP=>jS Z (Ak Z Z)<|bS 17 Z Z<|fF h λv L h=>aI (EV (Min:=[Ar bN.raw d.2.1 a,hJ bW a b.2]) (Mr:=[g,m,k,t]) aaJ (Du U n o p d.1 d.2.1 a v L) Z (aS.ix [2,3,0,1,4,5] Z Z) (aD.cons (cP Z) (aD.cons (n_ Z) (aD.cons (uI Z) (aD.cons (bI (aH.res 1 Z) eP) .nil)))) (λ_ _=>rfl)) Z λQ=>fC<|mF<|aP<|aA Z<|cH Z<|aC Z<|aO ?_;exact gA ((wI .i64 (b.1+(1:Int))),v) (Q) h SF (aS.ix [2,3,0,1,4,5] Z Z) (aD.refl _ _)
  refine fH ?_;exact cD (b.2) (a) h SF (aS.ix [0,1,2,3,4] Z Z) (aD.refl _ _)
 intro e f h;unfold rC at h;refine aT<|cL 0 Z<|bO (Know.one ((bI (aH.res 1 Z) eP))) λq=>bO (BH (fQ (i:=2) (j:=3) Z Z cA)) λs=>bP 4 (vs:=[d.1,d.2.1]) Z Z (iZ q (iZ s Z)) Z Z Z<|aO<|aV ?_;cases h;exact fD (d.1,d.2.1,f) Z Z (RV.cell 4 Z Z Z Z) (aS.ix [1,2,3] Z Z) aD.nil
end Go.Proofs.YtflciafboapaaaaGreat
section
set_option maxRecDepth 100000
namespace Go.Gx
open Go Go.Sx Go.Proofs Go.Proofs.YtflciafboapaaaaGreat
noncomputable section
def ajX (a:V6 GV) (H:GH):OR:=a1 a λb=>ob (aaY H b) λp0=>ob (gO 1000 p0) λr=>agx r H
def ajW (a:V6 GV) (H:GH):OR:=a2 a λb c=>ob (ajF H b) λp0=>ob (dSc .i64 c) λp1=>ob (oT 1000 p0 p1) λr=>VT r H
def abx (f:Nat) (a:V6 GV) (H:GH):V1 (GV×GH):=bif Nat.beq f 72 then ajX a H else bif Nat.beq f 24 then ajW a H else none
abbrev gl:Nat->Cf:=λ_:Nat=>noG
def gp:GP:=⟨tW,94,abx,abw 265⟩
section
variable {T:Nat} {w0:fO (gl T)} {w:V2} {ρ:fE} {H H':GH} {g:GV} {us:V6 GV} {vs:V6 V0}
theorem afh (h:ajX us H=some (g,H')) (R:g_ w0 ρ H w) (m:pX ρ us vs):kW prog w0 ρ 72 vs w g H':=by
 obtain⟨p,rfl,h⟩:=WF h;have⟨j,c,h⟩:=aE.1 h;have⟨r,l,h⟩:=aE.1 h;obtain⟨o,rfl,d⟩:=m.one;obtain⟨e,i,n,rfl,a,b⟩:=YN R d c;obtain⟨rfl,rfl⟩:=VS h;exact VA Nl (yK 1000 (p0:=j) e i n r l) R (zAs.2 ⟨a,zAs.2 ⟨b,λf k=>absurd k zAz⟩⟩) λρ=>.bool _
theorem afg (h:ajW us H=some (g,H')) (R:g_ w0 ρ H w) (i:pX ρ us vs):kW prog w0 ρ 24 vs w g H':=by
 obtain⟨z,A,rfl,h⟩:=WG h;have⟨o,d,h⟩:=aE.1 h;have⟨p,e,h⟩:=aE.1 h;have⟨r,v,h⟩:=aE.1 h;obtain⟨x,vs,rfl,j,i⟩:=i.of_cons;obtain⟨y,rfl,k⟩:=i.one;obtain⟨l,m,n,rfl,a,b,c⟩:=aeR R j d;obtain rfl:=aa_ k e;obtain⟨q,s,t,rfl,rfl⟩:=TN h;exact Vz ajL ajM q s t aaA (Dt 1000 (p0:=o) (p1:=p) l m n r v) R (zAs.2 ⟨a,zAs.2 ⟨b,zAs.2 ⟨c,λf u=>absurd u zAz⟩⟩⟩)
theorem Rc {f:Nat} (h:abx f us H=some (g,H')) (R:g_ w0 ρ H w) (c:pX ρ us vs):kW prog w0 ρ f vs w g H':=by
 unfold abx at h;cases a:Nat.beq f 72 with
 |true=>rw[a]at h;rw[zA5 a];exact afh h R c
 |false=>
 rw[a]at h;cases b:Nat.beq f 24 with
 |true=>rw[b]at h;rw[zA5 b];exact afg h R c
 |false=>
 rw[b]at h;cases h
end
theorem aih:ajJ prog tW=true:=by kernel_rfl
theorem ML:gQ prog tW:=⟨Uv,aig aih⟩
theorem aiK {a:Cf} (b:fO a):uP prog b (Pu tW 148 f148):=aaP ML mixedOrders func148 call148 (by kernel_rfl)
theorem aib (a:Array V0) (w:V2) (c:a.size=2):CallsDIn (FR none) 0 prog 147 a .returning w λe f g=>∃v,e = .returned v/\f = .returning/\Qx w g:=by
 have⟨d,h,b⟩:=acn (r:=Il tW (Pu tW 148 f148) (QR f147) (evC tW (Pu tW 148 f148) (λ_ _ _ _=>none) (aaL f147) 0 ⟨[],0,[]⟩ (JK [])) (QR f147).tail ⟨[(aeO f147,.inil)],H0⟩) (by kernel_rfl);exact YJ (ch:=Pu tW 148 f148) (lp:=λ_ _ _ _=>none) ML mixedOrders aiK LK func147 Z Z Z (by decide +kernel) (λi w=>by simp[execOp,resolve,invoke,builtin]) (by kernel_rfl) (by kernel_rfl) Z (by rw[c];decide +kernel) h b
theorem ajN {i:Cf} {a:FuncId->V6 GV->GH->V1 (GV×GH)} (o:∀(b:fO i) {f us H g H'},a f us H=some (g,H')->∀c w d,g_ b c H w->pX c us d->kW prog b c f d w g H') (b:fO i):Sp prog ⟨tW,94,a,abw 265⟩ Ct.fns b:=by
 refine⟨ML,mixedOrders,λh=>?_,o b,λh c w d H R n=>aeZ func265 Z Z Z Z h c w d H R n,λR l j k=>?_⟩
 .have⟨e,m,h⟩:=aE.1 (show ob (XP _) _=some _ from h);cases h;have⟨p,q,r⟩:=acM m;exact⟨p,q,TO r⟩
 .exact ahQ (tb:=tW) (T1:=3) (T2:=47) (cc:=147) ML func94 call94 call147 Z Z Z (WK (by kernel_rfl)) (WK (by kernel_rfl)) (XX Z Z) (XX Z Z) (abU Z Z) (abU Z Z) aib R l j k
theorem IN {T:Nat} (a:fO (gl T)):Sp prog gp Ct.fns a:=ajN (λa f d H g c h i w e R b=>Rc h R b) a
def gp0:GP:=⟨tW,94,λ_ _ _=>none,abw 265⟩
theorem afa (a:fO noG):Sp prog gp0 Ct.fns a:=ajN (λa f c H g b h=>by cases h) a
end
end Go.Gx
end
namespace Go.Gx
open Go Go.Sx Go.RowKit
mutual
def JP (k:Nat):GV->GV
 | .ptr h o=>.ptr (k+h) o
 | .sl h o l s=>.sl (k+h) o l s
 | .map h=>.map (k+h)
 | .fn f a b=>.fn f (ZM k a) (ZM k b)
 | .agg cs=>.agg (ZM k cs)
 | .tup vs=>.tup (ZM k vs)
 | .int a b=>.int a b
 | .bool b=>.bool b
 | .str a b=>.str a b
 | .pnil=>.pnil
 | .snil=>.snil
 | .fnil=>.fnil
 | .inil=>.inil
 | .un=>.un
 | .bad=>.bad
 | .opn h=>.opn (k+h)
def ZM (k:Nat):V6 GV->V6 GV
 | []=>[]
 |v::r=>JP k v::ZM k r
end
theorem RI (k:Nat):∀(l:V6 GV) (i:Nat),(ZM k l)[i]?=(l[i]?).map (JP k)
 | [],i=>rfl
 |v::r,0=>rfl
 |v::r,i+1=>by simpa [ZM]using RI k r i
theorem HM (k:Nat):∀(l:V6 GV),(ZM k l).length=l.length
 | []=>rfl
 |v::r=>by simp[ZM,HM k r]
def shO (k:Nat):GO->GO
 | .cells cs=>.cells (ZM k cs)
 | .mp es=>.mp (es.map λe=>(JP k e.1,JP k e.2))
def Dq (k:Nat) (l:Pj):Pj:={l with o:=shO k l.o}
theorem Rl.shift {y d:fE} {k:Nat} (c:∀h l,y h=some l->d (k+h)=some (Dq k l)) {g:GV} {v:V0} (h:Rl y g v):Rl d (JP k g) v:=by
 have m:∀{u:V6 GV} {e:gE},(∀(i:Nat) g v,u[i]?=some g->e[i]?=some v->Rl d (JP k g) v)->∀(i:Nat) g v,(ZM k u)[i]?=some g->e[i]?=some v->Rl d g v:=by
  intro u e D i g v x E;rw[RI]at x;obtain⟨z,A,rfl⟩:=Option.map_eq_some_iff.1 x;exact D i z v A E
 induction h with
 |int a n=>simp only[JP];exact .int a n
 |bool b=>simp only[JP];exact .bool b
 |str s=>simp only[JP];exact .str s
 |ptr t h=>simp only[JP];exact .ptr (l:=Dq k _) t (c _ _ h)
 |pnil=>simp only[JP];exact .pnil
 |sl h C B=>simp only[JP];exact .sl (l:=Dq k _) (c _ _ h) C B
 |snil=>simp only[JP];exact .snil
 |map h=>simp only[JP];exact .map (l:=Dq k _) (c _ _ h)
 |fn f j w o G q r=>simp only[JP];exact .fn f (by rw[HM];exact j) (m q) (by rw[HM];exact o) (m r)
 |fnil=>simp only[JP];exact .fnil
 |inil=>simp only[JP];exact .inil
 |agg j w o p=>simp only[JP];exact .agg (by rw[HM];exact j) (m p) o
 |tup j w p=>simp only[JP];exact .tup (by rw[HM];exact j) (m p)
 |un=>simp only[JP];exact .un
 |bad v=>simp only[JP];exact .bad v
 |opn v h F=>simp only[JP];exact .opn (l:=Dq k _) v (c _ _ h) F
abbrev OL:=V6 (Nat×Nat×GO)
def ZK:OL->Nat->V1 (Nat×GO)
 | [],_=>none
 |x::r,h=>if h=x.1 then some x.2 else ZK r h
theorem Ro {b:OL} {h:Nat} {p:Nat×GO} (a:ZK b h=some p):(h,p)∈b:=by
 induction b with
 |nil=>cases a
 |cons x r c=>
  simp only[ZK]at a;split at a
  .rename_i e;cases a;subst e;exact zAd
  .exact zAk _ (c a)
noncomputable def T_ (k:Nat) (t:Tr (Nat×GO)):OL->Tr (Nat×GO)
 | []=>t
 |x::r=>(T_ k t r).set (some (k+x.2.1,shO k x.2.2)) (k+x.1)
noncomputable def afG:OL->Tr (Nat×GO)
 | []=>.lf
 |x::r=>(afG r).set (some x.2) x.1
theorem GI:∀(a:OL) (h:Nat),(afG a).get h=ZK a h
 | [],h=>rfl
 |x::r,h=>by
  show((afG r).set (some x.2) x.1).get h=_;rw[uW];simp only[ZK];split
  .rfl
  .exact GI r h
theorem Oa (k:Nat) (t:Tr (Nat×GO)):∀(b:OL) (h:Nat),(T_ k t b).get h=if k<=h then(match ZK b (h - k)with|some p=>some (k+p.1,shO k p.2)|none=>t.get h)else t.get h
 | [],h=>by simp[T_,ZK]
 | x :: r, h =>by
  show((T_ k t r).set (some (k+x.2.1,shO k x.2.2)) (k+x.1)).get h=_;rw[uW,Oa k t r h];by_cases e:h=k+x.1
  .subst e;rw[if_pos Z,Q3];simp[ZK]
  .rw[if_neg e];by_cases a:k<=h
   .rw[if_pos a,if_pos a];simp only[ZK];rw[if_neg (show¬h - k=x.1 by omega)]
   .rw[if_neg a,if_neg a]
noncomputable def Eo (n:Nat) (a:OL):GH:=⟨n,afG a⟩
noncomputable def GH.load (H:GH) (n:Nat) (a:OL):GH:=⟨H.n+n,T_ H.n H.t a⟩
section
variable {gs:Cf} {w0:fO gs} {w w':V2} {ρ ρ2:fE} {H:GH} {n:Nat} {os:OL}
theorem iW {H:GH} {h:Nat} {o:GO}:H.get h=some o↔∃v,H.t.get h=some (v,o):=by
 unfold GH.get;cases c:H.t.get h with
 |none=>simp[ob]
 |some p=>have⟨a,b⟩:=p;simp[ob]
theorem uR {H:GH} {h v:Nat}:H.ver h=some v↔∃o,H.t.get h=some (v,o):=by
 unfold GH.ver;cases c:H.t.get h with
 |none=>simp[ob]
 |some p=>have⟨a,b⟩:=p;simp[ob]
theorem g_.sub {d:GH} (R:g_ w0 ρ H w) (z:d.n=H.n) (m:∀h p,d.t.get h=some p->H.t.get h=some p):g_ w0 ρ d w:=by
 have g:∀h o,d.get h=some o->H.get h=some o:=λh o i=>by
  have⟨v,j⟩:=iW.1 i;exact iW.2 ⟨v,m _ _ j⟩
 refine⟨R.ext,λh o i=>R.live h o (g h o i),λh q o y l u e f=>R.inj h q o y l u (g _ _ e) (g _ _ f),λh r=>R.fresh h V7,λh r=>R.dense h V7,λh v l j s=>?_,R.env⟩
 have⟨o,k⟩:=uR.1 j;have⟨x,a,b,c⟩:=R.vers h v l (uR.2 ⟨o,m _ _ k⟩) s;refine⟨x,a,b,?_⟩
 have e:=iW.2 ⟨v,k⟩;have f:=g _ _ e;rw[c]at f;cases f;exact e
theorem Bl.shift {l:Pj} {o:GO} {f:fE} {k:Nat} (d:∀h l,ρ2 h=some l->f (k+h)=some (Dq k l)) (h:Bl ρ2 w l o):Bl f w (Dq k l) (shO k o):=by
 cases o with
 |cells z=>
  have⟨j,T,r,s,t,y⟩:=h;refine⟨j,T,r,s,by rw[HM];exact t,λi g e=>?_⟩
  rw[RI]at e;obtain⟨p,q,rfl⟩:=Option.map_eq_some_iff.1 e;have⟨v,a,b,c⟩:=y i p q;exact⟨v,a,b.shift d,c⟩
 |mp A=>
  have⟨x,u,r,s,t⟩:=h;refine⟨x,u,r,by simpa [shO]using s,λi g e=>?_⟩
  rw[List.getElem?_map]at e;obtain⟨p,q,rfl⟩:=Option.map_eq_some_iff.1 e;have⟨m,a,b,c⟩:=t i p q;exact⟨m,a,b.shift d,c.shift d⟩
theorem g_.join {Y:Cf} {hb:Lr Y w λ_=>False} (R:g_ w0 ρ H w) (M:g_ (fO.of w hb) ρ2 (Eo n os) w'):
  ∃s:fE,ρ.le s/\g_ w0 s (H.load n os) w'/\∀g v,Rl ρ2 g v->Rl s (JP H.n g) v:=by
 let s:fE:=λh=>if h<H.n then ρ h else(ρ2 (h - H.n)).map (Dq H.n);have G:ρ.le s:=λh l f=>by
  have ac:h<H.n:=by
   rcases zAx h H.n with q|q
   .exact q
   .rw[R.fresh h q]at f;cases f
  show(if h<H.n then ρ h else _)=_;rw[if_pos ac];exact f
 have K:∀h l,ρ2 h=some l->s (H.n+h)=some (Dq H.n l):=λh l f=>by
  show(if H.n+h<H.n then _ else _)=_;rw[Q0,show H.n+h - H.n=h by omega,f];rfl
 have k:∀h,h<H.n->s h=ρ h:=λh u=>by show(if h<H.n then ρ h else _)=_;rw[if_pos u]
 have d:∀h,H.n<=h->s h=(ρ2 (h - H.n)).map (Dq H.n):=λh u=>by show(if h<H.n then ρ h else _)=_;rw[Q0]
 have J:∀h,H.n<=h->H.t.get h=none:=λh u=>by
  cases y:H.t.get h with
  |none=>rfl
  |some p=>exact absurd (R.lt (iW.2 ⟨p.1,y⟩)) V7
 have X:∀h,h<H.n->(H.load n os).t.get h=H.t.get h:=λh u=>by
  show(T_ H.n H.t os).get h=_;rw[Oa,Q0]
 have gh:∀h p,H.n<=h->(H.load n os).t.get h=some p->∃x,(Eo n os).t.get (h - H.n)=some x/\p=(H.n+x.1,shO H.n x.2):=λh p u hp=>by
  have A:(T_ H.n H.t os).get h=some p:=hp;rw[Oa,if_pos u,J h u]at A;cases hk:ZK os (h - H.n)with
  |none=>rw[hk]at A;cases A
  |some x=>rw[hk]at A;cases A;exact⟨x,(GI os _).trans hk,rfl⟩
 have W:Qx w w':=M.ext.ext;have L:∀l:Pj,(fO.of w hb).mine l.b->w.heap.size<=l.b:=λl h=>by
  rcases h with h|h
  .exact h
  .exact h.elim
 have r:∀h o,h<H.n->(H.load n os).get h=some o->∃l,ρ h=some l/\w0.mine l.b/\Bl ρ w l o/\H.get h=some o:=λh o u y=>by
  have⟨v,N⟩:=iW.1 y;rw[X h u]at N;have z:=iW.2 ⟨v,N⟩;have⟨l,a,b,c⟩:=R.live h o z;exact⟨l,a,b,c,z⟩
 have m:∀h o,H.n<=h->(H.load n os).get h=some o->∃l O,ρ2 (h - H.n)=some l/\w.heap.size<=l.b/\Bl ρ2 w' l O/\o=shO H.n O/\(Eo n os).get (h - H.n)=some O:=λh o u y=>by
  have⟨v,N⟩:=iW.1 y;have⟨x,E,e⟩:=gh h _ u N;cases e;have z:(Eo n os).get (h - H.n)=some x.2:=iW.2 ⟨x.1,E⟩;have⟨l,a,b,c⟩:=M.live _ _ z;exact⟨l,x.2,a,L l b,c,rfl,z⟩
 refine⟨s,G,⟨R.ext.trans W,λh o y=>?_,λh B o U l l' V E f j F=>?_,λh u=>?_,λh u=>?_,λh v l N f=>?_,λi v e=>let ⟨l,a,b⟩:=R.env i v e;⟨l,G _ _ a,b⟩⟩,λg v y=>y.shift K⟩
 .rcases zAx h H.n with q|q
  .have⟨l,a,b,c,_⟩:=r h o q y;exact⟨l,by rw[k h q];exact a,b,c.move G (W.block _ c.lt)⟩
  .obtain⟨l,O,a,b,c,rfl,_⟩:=m h o q y;exact⟨Dq H.n l,by rw[d h q,a];rfl,.inl (zB6 R.ext.size b),c.shift K⟩
 .rcases zAx h H.n with q|q<;>rcases zAx B H.n with I|I
  .have⟨l1,C,_,_,P⟩:=r h o q V;have⟨T,D,_,_,Q⟩:=r B U I E;rw[k h q,C]at f;rw[k B I,D]at j;cases f;cases j;exact R.inj h B o U _ _ P Q C D F
  .have⟨l1,C,_,c1,P⟩:=r h o q V;obtain⟨T,O,D,b2,_,rfl,Q⟩:=m B U I E;rw[k h q,C]at f;rw[d B I,D]at j;cases f;cases j;have:=c1.lt;simp only[Dq]at F;omega
  .obtain⟨l1,o1,C,b1,_,rfl,P⟩:=m h o q V;have⟨T,D,_,c2,Q⟩:=r B U I E;rw[d h q,C]at f;rw[k B I,D]at j;cases f;cases j;have:=c2.lt;simp only[Dq]at F;omega
  .obtain⟨l1,o1,C,b1,_,rfl,P⟩:=m h o q V;obtain⟨T,O,D,b2,_,rfl,Q⟩:=m B U I E;rw[d h q,C]at f;rw[d B I,D]at j;cases f;cases j;have:=M.inj _ _ _ _ _ _ P Q C D F;omega
 .have aa:H.n+n<=h:=u;rw[d h V7,M.fresh (h - H.n) (by show n<=_;omega)];rfl
 .have aa:h<H.n+n:=u;rcases zAx h H.n with q|q
  .have⟨l,f⟩:=R.dense h q;exact⟨l,by rw[k h q];exact f⟩
  .have⟨l,f⟩:=M.dense (h - H.n) (by show _<n;omega);exact⟨Dq H.n l,by rw[d h q,f];rfl⟩
 .have⟨o,S⟩:=uR.1 N;rcases zAx h H.n with q|q
  .rw[X h q]at S;rw[k h q]at f;have⟨lv,a,b,c⟩:=R.vers h v l (uR.2 ⟨o,S⟩) f;have y:=iW.2 ⟨v,S⟩;have⟨l',j,_,ck⟩:=R.live h o y;rw[f]at j;cases j;refine⟨lv,G _ _ a,by rw[W.block _ ck.lt];exact b,?_⟩
   have⟨v2,ad⟩:=iW.1 c;exact iW.2 ⟨v2,by rw[X h q];exact ad⟩
  .have⟨x,E,e⟩:=gh h _ q S;cases e;rw[d h q]at f;obtain⟨T,ab,rfl⟩:=Option.map_eq_some_iff.1 f;have⟨lv,a,b,c⟩:=M.vers (h - H.n) x.1 T (uR.2 ⟨x.2,E⟩) ab;refine⟨Dq H.n lv,K _ _ a,b,?_⟩
   have h3:(Eo n os).get (h - H.n)=some x.2:=iW.2 ⟨x.1,E⟩;rw[c]at h3;have h4:=Option.some.inj h3;exact iW.2 ⟨_,by rw[S,<-h4];rfl⟩
end
theorem abh {a b:Nat×Nat} (h:UM a b=true):a=b:=by
 have⟨f,d⟩:=a;have⟨g,e⟩:=b;unfold UM at h;cases c:Nat.beq d e with
 |false=>simp[c]at h
 |true=>
  simp only[c,cond_true]at h;rw[zA5 h,zA5 c]
theorem El {c:fE} {n l:Nat} {x:ByteArray} (a:n=mZ (bT x)) (b:l=(bT x).length):Rl c (.str n l) (.string x):=by
 rw[a,b];exact .str x
def VC (a:V6 GV) (p:Nat×Nat):V4:=List.casesOn (motive:=λ_=>V4) a false λu r=>List.casesOn (motive:=λ_=>V4) r (Option.casesOn (motive:=λ_=>V4) (GV.asStr u) false λs=>UM s p) λ_ _=>false
theorem KJ {b:V6 GV} {p:Nat×Nat} (h:VC b p=true):b=[.str p.1 p.2]:=by
 cases b with
 |nil=>cases h
 | cons u r =>
  cases r with
  |cons _ _=>cases h
  | nil =>
   cases a:GV.asStr u with
   |none=>simp[VC,a]at h
   |some s=>
    have:UM s p=true:=by simpa [VC,a]using h
    rw[rO a,abh this]
noncomputable section
def acr (H:GH) (a:V6 Nat):V1 OL:=List.rec (motive:=λ_=>V1 OL) (some []) (λh _ b=>ob (H.t.get h) λp=>ob b λr=>some ((h,p.1,p.2)::r)) a
theorem KQ {H:GH}:∀{c:V6 Nat} {b:OL},acr H c=some b->∀x∈b,H.t.get x.1=some x.2
 | [],b,h,x,a=>by cases h;cases a
 |h0::c,b,h,x,a=>by
  have⟨p,d,h⟩:=aE.1 (show ob (H.t.get h0) (λp=>ob (acr H c) λr=>some ((h0,p.1,p.2)::r))=some b from h);have⟨r,e,h⟩:=aE.1 h;cases h;rcases zAn.1 a with rfl|a
  .exact d
  .exact KQ e x a
def LN (T:Jf) (G:GP) (a f:Nat) (d:V6 GV) (b:V6 Nat):V1 (GV×Nat×OL):=ob (Ik T G a f d H0) λr=>ob (acr r.2 b) λc=>some (r.1,r.2.n,c)
def shK {R:Type} (k:Nat) (v:GV) (f:GV->R):R:=GV.casesOn (motive_1:=λ_=>R) v (λa b=>f (.int a b)) (λb=>f (.bool b)) (λa b=>f (.str a b)) (λh o=>sn (Nat.add k h) λh=>f (.ptr h o)) (f .pnil) (λh o l s=>sn (Nat.add k h) λh=>f (.sl h o l s)) (f .snil) (λh=>sn (Nat.add k h) λh=>f (.map h)) (λa b c=>f (JP k (.fn a b c))) (f .fnil) (f .inil) (λd=>f (JP k (.agg d))) (λe=>f (JP k (.tup e))) (f .un) (f .bad) (λh=>sn (Nat.add k h) λh=>f (.opn h))
theorem acX {R:Type} (k:Nat) (v:GV) (f:GV->R):shK k v f=f (JP k v):=by
 cases v<;>simp[shK,Ad,JP]
def aiU {R:Type} (k:Nat) (l:V6 GV):(V6 GV->R)->R:=List.rec (motive:=λ_=>(V6 GV->R)->R) (λf=>f []) (λx _ a f=>shK k x λy=>a λr=>f (y::r)) l
theorem XW {R:Type} (k:Nat):∀(l:V6 GV) (f:V6 GV->R),aiU k l f=f (ZM k l)
 | [],f=>rfl
 |x::l,f=>by
  show shK k x (λy=>aiU k l λr=>f (y::r))=_;rw[acX,XW k l];rfl
def aiV {R:Type} (k:Nat) (o:GO) (f:GO->R):R:=GO.casesOn (motive:=λ_=>R) o (λa=>aiU k a λa=>f (.cells a)) (λb=>f (shO k (.mp b)))
theorem afR {R:Type} (k:Nat) (o:GO) (f:GO->R):aiV k o f=f (shO k o):=by
 cases o with
 |cells a=>exact XW k a _
 |mp b=>rfl
def aiH {R:Type} (k:Nat) (t:Tr (Nat×GO)) (b:OL):(Tr (Nat×GO)->R)->R:=List.rec (motive:=λ_=>(Tr (Nat×GO)->R)->R) (λf=>f t) (λx _ a f=>a λt=>sn (Nat.add k x.2.1) λv=>sn (Nat.add k x.1) λh=>aiV k x.2.2 λo=>t.setK (some (v,o)) h f) b
theorem XJ {R:Type} (k:Nat) (t:Tr (Nat×GO)):∀(a:OL) (f:Tr (Nat×GO)->R),aiH k t a f=f (T_ k t a)
 | [],f=>rfl
 |x::a,f=>by
  show aiH k t a (λt=>sn (Nat.add k x.2.1) λv=>sn (Nat.add k x.1) λh=>aiV k x.2.2 λo=>t.setK (some (v,o)) h f)=_;rw[XJ k t a];simp only[Ad,afR,EX];rfl
def JC (g:GV) (n:Nat) (a:OL) (H:GH):V1 (GV×GH):=sn H.n λk=>shK k g λg=>aiH k H.t a λt=>sn (Nat.add k n) λm=>some (g,⟨m,t⟩)
theorem ab_ (g:GV) (n:Nat) (a:OL) (H:GH):JC g n a H=some (JP H.n g,H.load n a):=by
 unfold JC;simp only[Ad,acX,XJ];rfl
theorem HC {P:Program} {T:Jf} {G:GP} {gs gs2:Cf} (j:gs2.obs=gs.obs) (d:gs2.env=[]) (M:Nb T G.tab) (L:∀m:fO gs2,Sp P G T.fns m) {a f n:Nat} {y:V6 GV} {z:V6 V0} {O:V6 Nat} {g:GV} {c:OL} (i:LN T G a f y O=some (g,n,c)) (C:aU P f)
  {m:fO gs} {w:V2} {F:fE} {H o:GH} {B:GV} (Q:pX (λ_=>none) y z) (h:JC g n c H=some (B,o)) (R:g_ m F H w):kW P m F f z w B o:=by
 rw[ab_]at h;cases h;have⟨r,D,i⟩:=aE.1 (show ob (Ik T G a f y H0) _=some (g,n,c)from i);have⟨S,s,i⟩:=aE.1 i;cases i;rw[Dd M]at D;have b:Lr gs2 w λ_=>False:=λp t=>⟨(R.glo p (j▸t)).1,id⟩
 rcases Jn L (H':=r.2) (g:=r.1) D (g_.start (fO.of w b) d) Q with⟨v,E,l,k,_⟩|⟨_,N⟩
 .have:=C z.toArray w;rw[show(fO.of w b).w=w from rfl,this]at k;cases k
 .refine .inr ⟨C _ w,N.mono ?_⟩;rintro e E ⟨v,A,rfl,_,I,u⟩;have J:g_ (fO.of w b) A (Eo r.2.n c) E:=I.sub Z λh p t=>by
   have:ZK c h=some p:=(GI c h).symm.trans t;exact KQ s _ (Ro this)
  have⟨l,q,K,x⟩:=R.join J;exact⟨v,l,rfl,q,K,x _ _ u⟩
theorem HB {P:Program} {T:Jf} {G:GP} {gs:Cf} (y:Nb T G.tab) (x:∀H:fO gs,Sp P G T.fns H) {a f n:Nat} {m:V6 GV} {o:V6 V0} {D:V6 Nat} {g:GV} {j:OL} (d:LN T G a f m D=some (g,n,j)) (z:aU P f)
  (E:pX (λ_=>none) m o) (B:gs.env=[]) (b:fO gs):Calls P f o.toArray b.w λe q=>∃v c,e = .returned v/\g_ b c (Eo n j) q/\Rl c g v:=by
 have⟨r,t,d⟩:=aE.1 (show ob (Ik T G a f m H0) _=some (g,n,j)from d);have⟨F,k,d⟩:=aE.1 d;cases d;rw[Dd y]at t;rcases Jn x (H':=r.2) (g:=r.1) t (g_.start b B) E with⟨v,q,c,i,_⟩|⟨_,A⟩
 .have:=z o.toArray b.w;rw[this]at i;cases i
 .refine A.mono ?_;rintro e q ⟨v,s,rfl,_,u,l⟩;exact⟨v,s,rfl,u.sub Z λh p C=>by
   have:ZK j h=some p:=(GI j h).symm.trans C;exact KQ k _ (Ro this),l⟩
end
theorem Fv {P:Program} {gs:Nat->Cf} {L:V6 a_} (D:∀w S,(∀h∈L,h.p w S)->∃T,Lr (gs T) w λ_=>False) {f n:Nat} {z:V6 V0} {g:GV} {y:OL}
  (h:∀T (b:fO (gs T)),Calls P f z.toArray b.w λe s=>∃v c,e = .returned v/\g_ b c (Eo n y) s/\Rl c g v) {A:Type} {o:A->V0} {LO:A->V6 a_}
  (d:∀T (b:fO (gs T)) (B:fE) (w:V2) (V:V0),(∀k,b.mine k->b.w.heap.size<=k)->g_ b B (Eo n y) w->Rl B g V->∃x:A,V=o x/\∀q∈LO x,q.p w (λk=>b.w.heap.size<=k)):
  aZ P f z.toArray L o (λ_ l=>l) (λx l=>LO x++l):=by
 intro t C H;have⟨T,u⟩:=D t C H;refine(h T (.of t u)).mono ?_;rintro e s ⟨v,c,rfl,R,G⟩;obtain⟨x,rfl,F⟩:=d T (.of t u) c s v (λk r=>r.elim id False.elim) R G;refine⟨x,rfl,R.ext,λ_ _=>False,⟨λi m E=>by simp at E,λi k h=>h.elim,λi j k h=>h.elim⟩,λq a=>?_⟩
 have a:q∈LO x++[]:=a;rw[List.append_nil]at a;exact a_.wide (F q a) (λk r=>⟨.inr (.inl r),λi h=>h.elim⟩)
noncomputable def Eh (s:ByteArray):Nat×Nat:=(mZ (bT s),(bT s).length)
theorem Gz {a b:ByteArray} (h:Eh a=Eh b):a=b:=by
 have c:=abg a b;unfold Eh at h;rw[h]at c;have e:UM (mZ (bT b),(bT b).length) (mZ (bT b),(bT b).length)=true:=by simp[UM]
 rw[e]at c;have d:a.toList=b.toList:=eq_of_beq c.symm;rw[Lib.toList_data,Lib.toList_data]at d;have⟨⟨x⟩⟩:=a;have⟨⟨y⟩⟩:=b;simp only at d;rw[d]
noncomputable def QU (a:V6 GV):V1 (Nat×Nat):=List.casesOn (motive:=λ_=>V1 (Nat×Nat)) a none λc r=>List.casesOn (motive:=λ_=>V1 (Nat×Nat)) r c.asStr λ_ _=>none
abbrev aiL:dX ByteArray:=⟨1,Nat.one_pos,λ_ _ a x=>a=[.string x],λh=>by simp[h],λh _=>h⟩
theorem cG.str {S:Nat->Prop} {g:fE} {w:V2}:cG S g w QU aiL Eh:=λgs f y a h _=>by
 cases gs with
 |nil=>cases h
 |cons c gs=>
 cases gs with
 |cons _ _=>cases h
 |nil=>
 have h:c.asStr=some y:=h;obtain⟨v,f,rfl,b,a⟩:=a.of_cons;rw[a.of_nil];rw[rO h]at b;obtain⟨x,rfl,d,e⟩:=b.str_inv;exact⟨x,by unfold Eh;rw[<-d,<-e],rfl⟩
theorem MK {c:fE} {V:V0} {n l:Nat} {s:ByteArray} (h:Rl c (.str n l) V) (e:Eh s=(n,l)):V = .string s:=by
 obtain⟨x,rfl,a,b⟩:=h.str_inv;have:Eh x=Eh s:=by rw[e];unfold Eh;rw[<-a,<-b]
 rw[Gz this]
theorem rY {c:Type}:∀a b:c,id a=id b->a=b:=λ_ _ h=>h
theorem kN {c d e i:Type} {f:c->e} {g:d->i} (j:∀a b,f a=f b->a=b) (k:∀a b,g a=g b->a=b):∀a b:c×d,(λz:c×d=>(f z.1,g z.2)) a=(λz:c×d=>(f z.1,g z.2)) b->a=b:=λa b h=>by
 have⟨l,m⟩:=a;have⟨n,o⟩:=b;simp only[Prod.mk.injEq]at h;rw[j _ _ h.1,k _ _ h.2]
theorem Dm {g i:Type} {f:g->i} (e:∀a b,f a=f b->a=b):∀{c d:V6 g},c.map f=d.map f->c=d
 | [],[],_=>rfl
 | [],_::_,h=>by simp at h
 |_::_,[],h=>by simp at h
 |a::c,b::d,h=>by
  simp only[zBd,List.cons.injEq]at h;rw[e _ _ h.1,Dm e h.2]
end Go.Gx