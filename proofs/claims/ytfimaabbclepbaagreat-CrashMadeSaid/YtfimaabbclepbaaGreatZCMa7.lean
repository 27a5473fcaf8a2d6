/- Models of functions with their proofs, by program (gen/xt.py), and plain laws, in one text. Conditions: none. -/
import Derived.Test.YtfimaabbclepbaaGreatZCMa6
import Derived.Test.YtfimaabbclepbaaGreatZCMa2
import Derived.Test.YtfimaabbclepbaaGreatZCMa3
import Derived.Test.YtfimaabbclepbaaGreatZCMa4
import Derived.Test.YtfimaabbclepbaaGreatZCMa1
import Derived.OpenShut
set_option linter.unusedVariables false
set_option linter.unusedSimpArgs false
set_option maxHeartbeats 4000000
set_option maxRecDepth 20000
section
namespace Go.Gx
open Go Go.Sx
noncomputable section
section
variable {α R:Type}
def a0 (us:List α) (k:Option R):Option R:=List.casesOn (motive:=fun _=>Option R) us k (fun _ _=>none)
def a1 (us:List α) (k:α->Option R):Option R:=List.casesOn (motive:=fun _=>Option R) us none fun a r=>a0 r (k a)
def a2 (us:List α) (k:α->α->Option R):Option R:=List.casesOn (motive:=fun _=>Option R) us none fun a r=>a1 r (k a)
def a3 (us:List α) (k:α->α->α->Option R):Option R:=List.casesOn (motive:=fun _=>Option R) us none fun a r=>a2 r (k a)
def a4 (us:List α) (k:α->α->α->α->Option R):Option R:=List.casesOn (motive:=fun _=>Option R) us none fun a r=>a3 r (k a)
def a5 (us:List α) (k:α->α->α->α->α->Option R):Option R:=List.casesOn (motive:=fun _=>Option R) us none fun a r=>a4 r (k a)
def a6 (us:List α) (k:α->α->α->α->α->α->Option R):Option R:=List.casesOn (motive:=fun _=>Option R) us none fun a r=>a5 r (k a)
theorem a0_some {us:List α} {k:Option R} {r:R} (h:a0 us k=some r):us=[]∧k=some r:=by
 cases us with
 |nil=>exact⟨rfl,h⟩
 |cons _ _=>cases h
theorem a1_some {us:List α} {k:α->Option R} {r:R} (h:a1 us k=some r):∃x,us=[x]∧k x=some r:=by
 cases us with
 |nil=>cases h
 |cons x us=>obtain⟨rfl,h⟩:=a0_some h;exact⟨x,rfl,h⟩
theorem a2_some {us:List α} {k:α->α->Option R} {r:R} (h:a2 us k=some r):∃x y,us=[x,y]∧k x y=some r:=by
 cases us with
 |nil=>cases h
 |cons x us=>obtain⟨y,rfl,h⟩:=a1_some h;exact⟨x,y,rfl,h⟩
theorem a3_some {us:List α} {k:α->α->α->Option R} {r:R} (h:a3 us k=some r):∃x y z,us=[x,y,z]∧k x y z=some r:=by
 cases us with
 |nil=>cases h
 |cons x us=>obtain⟨y,z,rfl,h⟩:=a2_some h;exact⟨x,y,z,rfl,h⟩
theorem a4_some {us:List α} {k:α->α->α->α->Option R} {r:R} (h:a4 us k=some r):∃x y z u,us=[x,y,z,u]∧k x y z u=some r:=by
 cases us with
 |nil=>cases h
 |cons x us=>obtain⟨y,z,u,rfl,h⟩:=a3_some h;exact⟨x,y,z,u,rfl,h⟩
theorem a5_some {us:List α} {k:α->α->α->α->α->Option R} {r:R} (h:a5 us k=some r):∃x y z u v,us=[x,y,z,u,v]∧k x y z u v=some r:=by
 cases us with
 |nil=>cases h
 |cons x us=>obtain⟨y,z,u,v,rfl,h⟩:=a4_some h;exact⟨x,y,z,u,v,rfl,h⟩
theorem a6_some {us:List α} {k:α->α->α->α->α->α->Option R} {r:R} (h:a6 us k=some r):∃x y z u v w,us=[x,y,z,u,v,w]∧k x y z u v w=some r:=by
 cases us with
 |nil=>cases h
 |cons x us=>obtain⟨y,z,u,v,w,rfl,h⟩:=a5_some h;exact⟨x,y,z,u,v,w,rfl,h⟩
end

def dSc (k:IntKind) (v:GV):Option Int:=ob v.asI fun p=>bif eqK p.1 k then some p.2 else none
def dNet (H:GH) (v:GV):Option (Int×List Int×List Int×List Int×Bool×Bool):=ob v.asA fun cs=>a6 cs fun a b c d e f=>ob (dSc .i64 a) fun n=>ob (dInts H b) fun x=>ob (dInts H c) fun y=>ob (dInts H d) fun z=>ob e.asB fun p=>ob f.asB fun q=>some (n,x,y,z,p,q)

def gI (n:Int):List GV:=[.int .i64 n]
def gP (p:Int×Int):List GV:=[.int .i64 p.1,.int .i64 p.2]
def fcI {R:Type} (l:List Int):(List Int->R)->R:=List.rec (motive:=fun _=>(List Int->R)->R) (fun k=>k []) (fun x _ ih k=>fi x fun x=>ih fun r=>k (x::r)) l
def fcP {R:Type} (l:List (Int×Int)):(List (Int×Int)->R)->R:=List.rec (motive:=fun _=>(List (Int×Int)->R)->R) (fun k=>k []) (fun x _ ih k=>fi x.1 fun a=>fi x.2 fun b=>ih fun r=>k ((a,b)::r)) l
def fcR {R:Type} (l:List (List (Int×Int))):(List (List (Int×Int))->R)->R:=List.rec (motive:=fun _=>(List (List (Int×Int))->R)->R) (fun k=>k []) (fun x _ ih k=>fcP x fun x=>ih fun r=>k (x::r)) l
theorem fcI_eq {R:Type}:∀(l:List Int) (k:List Int->R),fcI l k=k l
 | [],k=>rfl
 |x::l,k=>by
  show fi x (fun x=>fcI l fun r=>k (x::r))=_
  rw[fi_eq,fcI_eq l]
theorem fcP_eq {R:Type}:∀(l:List (Int×Int)) (k:List (Int×Int)->R),fcP l k=k l
 | [],k=>rfl
 |x::l,k=>by
  show fi x.1 (fun a=>fi x.2 fun b=>fcP l fun r=>k ((a,b)::r))=_
  rw[fi_eq,fi_eq,fcP_eq l]
theorem fcR_eq {R:Type}:∀(l:List (List (Int×Int))) (k:List (List (Int×Int))->R),fcR l k=k l
 | [],k=>rfl
 |x::l,k=>by
  show fcP x (fun x=>fcR l fun r=>k (x::r))=_
  rw[fcP_eq,fcR_eq l]
def oBool (b:Bool) (H:GH):OR:=Bool.casesOn (motive:=fun _=>OR) b (some (.bool false,H)) (some (.bool true,H))
def oInts (r:List Int) (H:GH):OR:=fcI r fun r=>bif Nat.beq r.length 0 then none else fc (r.flatMap gI) fun l=>sn r.length fun n=>H.newK (.cells l) fun h H'=>some (.sl h 0 n 1,H')
def oGraph (r:List Int×List (List (Int×Int))) (H:GH):OR:=fcI r.1 fun x=>fcR r.2 fun y=>bif Nat.beq x.length 0 then none else bif Nat.beq y.length 0 then none else bif y.any fun l=>Nat.beq l.length 0 then none else
 fc (x.flatMap gI) fun l=>H.newK (.cells l) fun h H1=>fc (impRows 2 gP y H1).1 fun rs=>sn x.length fun n=>sn y.length fun m=>(impRows 2 gP y H1).2.newK (.cells rs) fun h2 H2=>some (.agg [.sl h 0 n 1,.sl h2 0 m 1],H2)
end
section
variable {P:Program} {w0:Base} {w:World} {ρ:Rho} {H H':GH} {g:GV}
theorem RlL.one {x:GV} {vs:List Value} (h:RlL ρ [x] vs):∃V,vs=[V]∧Rl ρ x V:=by
 obtain⟨v,vs,rfl,h1,h2⟩:=h.of_cons
 rw[h2.of_nil];exact⟨v,rfl,h1⟩
theorem dSc_ok {k:IntKind} {v:GV} {V:Value} {n:Int} (hv:Rl ρ v V) (h:dSc k v=some n):V = .int k n:=by
 obtain⟨p,hp,h⟩:=ob_some.1 (show ob v.asI _=some n from h)
 obtain⟨hk,h⟩:=bif_some.1 h
 cases h
 rw[asI_eq hp]at hv
 rw[hv.int_inv,eqK_eq hk]
theorem asB_ok {v:GV} {V:Value} {b:Bool} (hv:Rl ρ v V) (h:v.asB=some b):V = .bool b:=by
 rw[asB_eq h]at hv;exact hv.bool_inv
theorem dNet_ok (R:Rel w0 ρ H w) {v:GV} {V:Value} {p:Int×List Int×List Int×List Int×Bool×Bool} (hv:Rl ρ v V) (h:dNet H v=some p):
  ∃v0 v1 v2,V = .agg #[.int .i64 p.1,v0,v1,v2,.bool p.2.2.2.2.1,.bool p.2.2.2.2.2]∧(Sl (Rep.int .i64) v0 p.2.1).p w All∧(Sl (Rep.int .i64) v1 p.2.2.1).p w All∧(Sl (Rep.int .i64) v2 p.2.2.2.1).p w All:=by
 obtain⟨cs,hcs,h⟩:=ob_some.1 (show ob v.asA _=some p from h)
 obtain⟨a,b,c,d,e,f,rfl,h⟩:=a6_some h
 obtain⟨n,hn,h⟩:=ob_some.1 h
 obtain⟨x,hx,h⟩:=ob_some.1 h
 obtain⟨y,hy,h⟩:=ob_some.1 h
 obtain⟨z,hz,h⟩:=ob_some.1 h
 obtain⟨q,hq,h⟩:=ob_some.1 h
 obtain⟨r,hr,h⟩:=ob_some.1 h
 cases h
 rw[asA_eq hcs]at hv
 obtain⟨vs,rfl,hl,_⟩:=hv.agg_inv
 obtain⟨va,vs,rfl,ha,hl⟩:=hl.of_cons
 obtain⟨vb,vs,rfl,hb,hl⟩:=hl.of_cons
 obtain⟨vc,vs,rfl,hc,hl⟩:=hl.of_cons
 obtain⟨vd,vs,rfl,hd,hl⟩:=hl.of_cons
 obtain⟨ve,vs,rfl,he,hl⟩:=hl.of_cons
 obtain⟨vf,rfl,hf⟩:=hl.one
 have e1:=dSc_ok ha hn
 have e2:=asB_ok he hq
 have e3:=asB_ok hf hr
 subst e1 e2 e3
 exact⟨vb,vc,vd,rfl,dInts_ok R hb hx,dInts_ok R hc hy,dInts_ok R hd hz⟩
theorem oBool_some {b:Bool} (h:oBool b H=some (g,H')):g = .bool b∧H'=H:=by
 cases b<;>cases h<;>exact⟨rfl,rfl⟩
theorem oInts_some {r:List Int} (h:oInts r H=some (g,H')):r≠[]∧g = .sl H.n 0 r.length 1∧H'=H.new (.cells (r.flatMap gI)):=by
 unfold oInts at h
 rw[fcI_eq]at h
 obtain⟨h1,h⟩:=bif_some'.1 h
 rw[fc_eq,sn_eq,GH.newK_eq]at h
 cases h
 exact⟨fun e=>(by subst e;cases h1),rfl,rfl⟩
theorem oGraph_some {r:List Int×List (List (Int×Int))} (h:oGraph r H=some (g,H')):r.1≠[]∧r.2≠[]∧(∀xs∈r.2,xs≠[])∧
  g = .agg [.sl H.n 0 r.1.length 1,.sl (impRows 2 gP r.2 (H.new (.cells (r.1.flatMap gI)))).2.n 0 r.2.length 1]∧H'=(impRows 2 gP r.2 (H.new (.cells (r.1.flatMap gI)))).2.new (.cells (impRows 2 gP r.2 (H.new (.cells (r.1.flatMap gI)))).1):=by
 unfold oGraph at h
 rw[fcI_eq,fcR_eq]at h
 obtain⟨h1,h⟩:=bif_some'.1 h
 obtain⟨h2,h⟩:=bif_some'.1 h
 obtain⟨h3,h⟩:=bif_some'.1 h
 rw[fc_eq,GH.newK_eq,fc_eq,sn_eq,sn_eq,GH.newK_eq]at h
 cases h
 refine⟨fun e=>(by rw[e]at h1;cases h1),fun e=>(by rw[e]at h2;cases h2),fun xs hx e=> ?_,rfl,rfl⟩
 have:=List.any_eq_false.1 h3 xs hx
 rw[e]at this
 exact this rfl
theorem gI_ok (ρ:Rho) (x:Int):RlL ρ (gI x) [.int .i64 x]:= .cons (.int _ _) .nil
theorem gP_ok (ρ:Rho) (x:Int×Int):RlL ρ (gP x) [.int .i64 x.1,.int .i64 x.2]:= .cons (.int _ _) (.cons (.int _ _) .nil)
theorem meets_closed {f:Nat} {V:Value} (hb:HasBody P f) (hv:∀ρ V',Rl ρ g V'->V'=V) (h:∀w:World,CallSem P ⟨w,fun _=>False⟩ (fun _=>none) f [] w g H'):Meets P f #[] [] (fun _:Unit=>V) (fun _ l=>l) (fun _ l=>l):=by
 intro w0 S0 _
 rcases h w0 with⟨v,w',ρ',hr,_⟩|⟨_,hc⟩
 ·have:=hb #[] w0
  rw[show([]:List Value).toArray = #[]from rfl]at hr
  rw[this]at hr;cases hr
 ·refine hc.mono ?_
  rintro e w' ⟨v,ρ',rfl,_,R,hr⟩
  exact⟨(),by rw[hv _ _ hr],R.ext,fun _ _=>False,⟨fun i m hm=>by simp at hm,fun i k h=>h.elim,fun i j k h=>h.elim⟩,fun f hf=>by simp at hf⟩

section
variable {tb:TB} {T:TypeId}
theorem alloc_z (h:zeroOf tb T=some [z64]) (H:GH):vAlloc tb T H=some (.ptr H.n 0,H.new (.cells [z64])):=by
 unfold vAlloc
 rw[h]
 show H.newK (.cells [z64]) (fun h H'=>some (GV.ptr h 0,H'))=_
 rw[GH.newK_eq]
theorem store_z {t:Ty} (h:tb T=some t) (hs:t.size=1) (H:GH) (k:Nat) (c:GV) (hc:GH.cells H k=some [c]):vStore tb T (.ptr k 0) z64 H=some (.un,H.set k (.cells [z64])):=by
 show ob (H.cells k) (fun cs=>ob (tb T) fun t=>bif Nat.beq 1 t.size then bif Nat.beq t.size 0 then none else ob (gput [z64] 0 cs) fun cs'=>H.setK k (.cells cs') fun H'=>some (GV.un,H')else none)=_
 rw[hc,h]
 show(bif Nat.beq 1 t.size then bif Nat.beq t.size 0 then none else ob (gput [z64] 0 [c]) fun cs'=>H.setK k (.cells cs') fun H'=>some (GV.un,H')else none)=_
 rw[hs]
 show H.setK k (.cells [z64]) (fun H'=>some (GV.un,H'))=_
 rw[GH.setK_eq]
theorem load_z {t:Ty} (h:tb T=some t) (ha:aggD t.desc=false) (H:GH) (k:Nat) (hc:GH.cells H k=some [z64]):vLoad tb T (.ptr k 0) H=some z64:=by
 show ob (H.cells k) (fun cs=>ob (tb T) fun t=>ofCells t cs 0)=_
 rw[hc,h]
 show ofCells t [z64] 0=_
 unfold ofCells
 rw[ha];rfl
end
def bodyOps (fn:Func):List Oper:=match fn.body with
 |some (.seq (.region _ ops _) _)=>ops.toList
 |_=>[]
def bodyRest (fn:Func):Code:=match fn.body with
 |some (.seq _ c)=>c
 |_=> .skip
def bodyDst (fn:Func):Nat:=match bodyOps fn with
 |o::_=>o.dst.getD 0
 | []=>0
def okN (r:RS):Bool:=match r with
 |some o=>match o.e with
  | .normal=>true
  |_=>false
 |none=>false
theorem okN_spec {r:RS} (h:okN r=true):∃out,r=some out∧out.e = .normal:=by
 unfold okN at h
 cases r with
 |none=>cases h
 |some o=>
  refine⟨o,rfl,?_⟩
  cases he:o.e<;>simp only[he]at h<;>first|rfl|cases h
def okT (r:OR):Bool:=match r with
 |some (.bool true,_)=>true
 |_=>false
theorem okT_spec {r:OR} (h:okT r=true):∃H',r=some (.bool true,H'):=by
 unfold okT at h
 split at h
 ·exact⟨_,rfl⟩
 ·cases h
end
end Go.Gx
end
section
namespace Go.Proofs.YtfimaabbclepbaaGreat
open Go.Sx
def world_Within_k1  (a4:Int):Option (Int):=
 some (a4)
def m_world_Within (fuel:Nat) (p0:Int) (p1:Int):Option (Int):=
 if p1<(1:Int)then(some (0:Int))else(ck (p1≠0) (if(Int.tmod p0 p1)<(0:Int)then(world_Within_k1  (wI .i64 ((Int.tmod p0 p1)+p1)))else(world_Within_k1  (Int.tmod p0 p1))))
theorem body38:HasBody Tryz.prog 38:=Tryz.call38
theorem t_world_Within (fuel:Nat) {p0:Int} {p1:Int} (r:Int) (h:m_world_Within fuel p0 p1=some r):
  Meets Tryz.prog 38 #[Value.int .i64 (p0),Value.int .i64 (p1)] [] (fun x:Unit=>Value.int .i64 (r)) (fun x l=>l) (fun _ l=>l):=by
 refine Meets.of (vs:=[Value.int .i64 (p0),Value.int .i64 (p1)]) Tryz.func38 rfl Tryz.ntmps38 rfl fun c=> ?_
 unfold m_world_Within at h
 refine J.seq<|J.region<|J.quiet (Y.assign rfl) rfl<|J.done<|J.thenN<|J.seq<|J.seq<|J.region<|J.quiet (Y.move rfl) rfl<|J.quiet (Y.lss rfl rfl) rfl<|J.done<|J.thenN ?_
 refine J.condD (by exact rfl) (fun hp1=> ?_) (fun hp1=> ?_)
 ·have h:=ifP hp1 h
  refine J.seq<|J.region<|J.quiet (Y.assign rfl) rfl<|J.done<|J.thenN<|J.ret<|J.thenR ?_
  obtain rfl:=Option.some.inj h
  exact J.retG1 (()) rfl rfl (RV.tmp rfl) (SubM.refl _) LentAll.nil
 ·have h:=ifN hp1 h
  refine J.skip<|J.thenN<|J.seq<|J.region<|J.quiet (Y.move rfl) rfl<|J.quiet (Y.move rfl) rfl ?_
  have h:=ck_some h;obtain⟨hc2,h⟩:=h
  refine J.quiet (Y.rem rfl rfl hc2) rfl<|J.quiet (Y.assign rfl) rfl<|J.done<|J.thenN<|J.seq<|J.midI (A:=Int) (B:=Unit) (fun a4=>world_Within_k1  a4=some r) (fun a4 b5=>[(0,Value.int .i64 (a4))]) (fun a4 b5=>[]) (fun a4 b5=>[]) ?_ ?_
  ·refine J.seq<|J.region<|J.quiet (Y.move rfl) rfl<|J.quiet (Y.lss rfl rfl) rfl<|J.done<|J.thenN ?_
   refine J.condD (by exact rfl) (fun hp6=> ?_) (fun hp6=> ?_)
   ·have h:=ifP hp6 h
    refine J.region<|J.quiet (Y.move rfl) rfl<|J.quiet (Y.move rfl) rfl<|J.quiet (Y.addW rfl rfl) rfl<|J.quiet (Y.assign rfl) rfl<|J.done<|J.thenN ?_
    exact J.meetI (wI .i64 ((Int.tmod p0 p1)+p1)) (()) h SF (SubM.refl _) (LentAll.refl _ _)
   ·have h:=ifN hp6 h
    refine J.skip<|J.thenN ?_
    exact J.meetI (Int.tmod p0 p1) (()) h SF (SubM.refl _) (LentAll.refl _ _)
  ·clear h
   intro a4 b5 h
   unfold world_Within_k1 at h
   refine J.seq<|J.region<|J.quiet (Y.move rfl) rfl<|J.quiet (Y.assign rfl) rfl<|J.done<|J.thenN<|J.ret ?_
   obtain rfl:=Option.some.inj h
   exact J.retG1 (()) rfl rfl (RV.tmp rfl) (SubM.refl _) LentAll.nil
end Go.Proofs.YtfimaabbclepbaaGreat
end
section
namespace Go.Proofs.YtfimaabbclepbaaGreat
open Go.Sx
def m_world_at (fuel:Nat) (p0:List (Int)) (p1:Int):Option (Int):=
 if p1<(List.length p0:Int)then(ck (0<=p1∧p1<(List.length p0:Int)) (some (at' p0 p1)))else(some (0:Int))
theorem body39:HasBody Tryz.prog 39:=Tryz.call39
theorem t_world_at (fuel:Nat) {p0:List (Int)} {p1:Int} (v0:Value) (r:Int) (h:m_world_at fuel p0 p1=some r):
  Meets Tryz.prog 39 #[v0,Value.int .i64 (p1)] [Sl RI64 v0 p0] (fun x:Unit=>Value.int .i64 (r)) (fun x l=>l) (fun _ l=>l):=by
 refine Meets.of (vs:=[v0,Value.int .i64 (p1)]) Tryz.func39 rfl Tryz.ntmps39 rfl fun c=> ?_
 unfold m_world_at at h
 refine J.seq<|J.region<|J.quiet (Y.assign rfl) rfl<|J.done<|J.thenN<|J.seq<|J.seq<|J.region<|J.quiet (Y.move rfl) rfl<|J.quiet (Y.move rfl) rfl<|J.quiet (Y.lenS rfl (Lent.fact 0 rfl) rfl) rfl<|J.quiet (Y.lss rfl rfl) rfl<|J.done<|J.thenN ?_
 refine J.condD (by exact rfl) (fun hp1=> ?_) (fun hp1=> ?_)
 ·have h:=ifP hp1 h
  refine J.seq<|J.region<|J.quiet (Y.move rfl) rfl<|J.quiet (Y.move rfl) rfl ?_
  have h:=ck_some h;obtain⟨hc2,h⟩:=h
  refine J.quiet (Y.indexS rfl rfl (Lent.fact 0 rfl) rfl rfl hc2) rfl<|J.quiet (Y.loadS0 rfl (Lent.fact 0 rfl) rfl rfl rfl RI64c0 hc2) rfl<|J.quiet (Y.assign rfl) rfl<|J.done<|J.thenN<|J.ret<|J.thenR ?_
  obtain rfl:=Option.some.inj h
  exact J.retG1 (()) rfl rfl (RV.tmp rfl) (SubM.refl _) LentAll.nil
 ·have h:=ifN hp1 h
  refine J.skip<|J.thenN<|J.seq<|J.region<|J.quiet (Y.assign rfl) rfl<|J.done<|J.thenN<|J.ret ?_
  obtain rfl:=Option.some.inj h
  exact J.retG1 (()) rfl rfl (RV.tmp rfl) (SubM.refl _) LentAll.nil
end Go.Proofs.YtfimaabbclepbaaGreat
end
section
namespace Go.Proofs.YtfimaabbclepbaaGreat
open Go.Sx
def _world_Net__nodes_k1 (r3:Int) (a13:List (Int)):Option ((List (Int)×(List (List (Int×Int))))):=
 some ((a13,(List.replicate (Int.toNat (wI .i64 ((1:Int)+r3))) ([]:List (Int×Int)))))
def _world_Net__nodes_k2 (a21:Int×List (Int)) (ag20:(Int×List (Int))->Option ((List (Int)×(List (List (Int×Int)))))) (a32:Int):Option ((List (Int)×(List (List (Int×Int))))):=
 ck ((List.length a21.2:Int)+(List.length ([a32]):Int)<=1099511627) (ag20 ((wI .i64 (a21.1+(1:Int))),(a21.2++[a32])))
def _world_Net__nodes_k3 (ag40:(Int×Int)->Option ((List (Int)×(List (List (Int×Int)))))) (a47:Int×Int):Option ((List (Int)×(List (List (Int×Int))))):=
 ag40 (a47.1,(wI .i64 (a47.2+(1:Int))))
def _world_Net__nodes_s2 (a21:Int×List (Int)) (ag20:(Int×List (Int))->Option ((List (Int)×(List (List (Int×Int)))))) (a41:Int×Int) (ag40:(Int×Int)->Option ((List (Int)×(List (List (Int×Int)))))):Option ((List (Int)×(List (List (Int×Int))))):=
 if a41.2<a21.1 then(ck (0<=a41.2∧a41.2<(List.length a21.2:Int)) (if(at' a21.2 a41.2)=a41.1 then(ck ((256:Int)≠0) (_world_Net__nodes_k3 ag40 ((Int.tmod (wI .i64 (a41.1+(1:Int))) (256:Int)),(-1:Int))))else(_world_Net__nodes_k3 ag40 (a41.1,a41.2))))else(_world_Net__nodes_k2 a21 ag20 (a41.1))
def _world_Net__nodes_s1 (fuel:Nat) (p0:Int×List (Int)×List (Int)×List (Int)×Bool×Bool) (r3:Int) (a21:Int×List (Int)) (ag20:(Int×List (Int))->Option ((List (Int)×(List (List (Int×Int)))))):Option ((List (Int)×(List (List (Int×Int))))):=
 if a21.1<(wI .i64 ((1:Int)+r3))then(Option.bind (m_world_at fuel p0.2.2.2.1 a21.1) fun r25=>(Option.bind (m_world_Within fuel r25 (256:Int)) fun r28=>(iter (_world_Net__nodes_s2 a21 ag20) fuel (r28,(0:Int)))))else(_world_Net__nodes_k1 r3 (a21.2))
def m__world_Net__nodes (fuel:Nat) (p0:Int×List (Int)×List (Int)×List (Int)×Bool×Bool) (p1:Int):Option ((List (Int)×(List (List (Int×Int))))):=
 Option.bind (m_world_Within fuel (wI .i64 (p0.1 - (1:Int))) p1) fun r3=>(ck (0<=(wI .i64 ((1:Int)+r3))∧(wI .i64 ((1:Int)+r3))<=1099511627) (iter (_world_Net__nodes_s1 fuel p0 r3) fuel ((0:Int),([]:List Int))))
theorem body37:HasBody Tryz.prog 37:=Tryz.call37
theorem t__world_Net__nodes (fuel:Nat) {p0:Int×List (Int)×List (Int)×List (Int)×Bool×Bool} {p1:Int} (v0:Value)  (v1:Value)  (v2:Value) (r:(List (Int)×(List (List (Int×Int))))) (h:m__world_Net__nodes fuel p0 p1=some r):
  Meets Tryz.prog 37 #[Value.agg #[Value.int .i64 (p0.1),v0,v1,v2,Value.bool (p0.2.2.2.2.1),Value.bool (p0.2.2.2.2.2)],Value.int .i64 (p1)] [Sl RI64 v0 p0.2.1,Sl RI64 v1 p0.2.2.1,Sl RI64 v2 p0.2.2.2.1] (fun x:Value×Value×List Value=>Value.agg #[x.1,x.2.1]) (fun x l=>Ar EI64 x.1 r.1::Ar Enc.raw x.2.1 x.2.2::Rws EI64I64p x.2.2 r.2::l) (fun _ l=>l):=by
 refine Meets.of (vs:=[Value.agg #[Value.int .i64 (p0.1),v0,v1,v2,Value.bool (p0.2.2.2.2.1),Value.bool (p0.2.2.2.2.2)],Value.int .i64 (p1)]) Tryz.func37 rfl Tryz.ntmps37 rfl fun c=> ?_
 unfold m__world_Net__nodes at h
 refine J.seq<|J.region<|J.loud (Loud.box (cs:=[Value.int .i64 (p0.1),v0,v1,v2,Value.bool (p0.2.2.2.2.1),Value.bool (p0.2.2.2.2.2)]) rfl rfl) rfl fun b1=>J.loud (Loud.alloc (cs:=[Value.slice none 0 0,Value.slice none 0 0]) rfl rfl) rfl fun b2=>J.done<|J.thenN<|J.seq<|J.region<|J.quiet (Y.fieldB rfl rfl rfl rfl rfl) rfl<|J.quiet (Y.loadB 1 rfl rfl rfl rfl rfl) rfl<|J.quiet (Y.subW rfl rfl) rfl<|J.quiet (Y.move rfl) rfl ?_
 have h:=bnd h;obtain⟨r3,hr4,h⟩:=h
 refine J.loud (Loud.callL body38 (t_world_Within fuel  r3 hr4) rfl .nil (fun _ _=>rfl)) rfl fun x5=>J.quiet (Y.addW rfl rfl) rfl<|J.quiet (Y.assign rfl) rfl<|J.done<|J.thenN<|J.seq<|J.region<|J.quiet (Y.move rfl) rfl ?_
 have h:=ck_some h;obtain⟨hc6,h⟩:=h
 refine J.stp (Stp.rowsNew EI64I64p (Int.toNat (wI .i64 ((1:Int)+r3))))<|J.loud (Loud.makeS (e:=Enc.raw) (Value.slice none 0 0) rfl rfl rfl rfl hc6 rfl rfl rfl) rfl fun u7=>J.know (Know.one (Lent.sl (Lent.rows (i:=0) (j:=1) rfl rfl FI64I64p))) fun ho8=> ?_
 refine J.quiet (Y.bld1 (r:=Value.agg #[Value.slice none 0 0,u7]) rfl (by intro w;simp[Instr.build,Instr.fill,cells_intV,cells_boolV,cells_sliceV,cells_ptrV,cells_strV,cells_funcV,cells_agg,one_cells ho8])) rfl ?_
 refine J.loud (Loud.alloc (cs:=[Value.slice none 0 0,Value.slice none 0 0]) rfl rfl) rfl fun b9=>J.know (Know.one (Lent.sl (Lent.rows (i:=1) (j:=2) rfl rfl FI64I64p))) fun ho10=>J.storeAll 0 (vs:=[Value.slice none 0 0,u7]) rfl rfl (all1 rfl (all1 ho10 rfl)) rfl rfl rfl<|J.done<|J.thenN<|J.seq<|J.midI (A:=List (Int)) (B:=Value) (fun a13=>_world_Net__nodes_k1 r3 a13=some r) (fun a13 b14=>[(4,Value.pointer (some ⟨b2,0,none⟩)),(6,Value.pointer (some ⟨b9,0,none⟩))]) (fun a13 b14=>[Blk b9 [b14,u7] 25,Ar Enc.raw u7 (List.replicate (Int.toNat (wI .i64 ((1:Int)+r3))) (Value.slice none 0 0)),Rws EI64I64p (List.replicate (Int.toNat (wI .i64 ((1:Int)+r3))) (Value.slice none 0 0)) (List.replicate (Int.toNat (wI .i64 ((1:Int)+r3))) ([]:List (Int×Int))),Blk b2 [Value.slice none 0 0,Value.slice none 0 0] 25,Ar EI64 b14 a13]) (fun a13 b14=>[Sl RI64 v0 p0.2.1,Sl RI64 v1 p0.2.2.1,Sl RI64 v2 p0.2.2.2.1]) ?_ ?_
 ·refine J.seq<|J.region<|J.quiet (Y.assign rfl) rfl<|J.done<|J.thenN<|J.block<|J.stp (Stp.nilAr EI64)<|J.loopI (A:=Int×List (Int)) (B:=Value) (_world_Net__nodes_s1 fuel p0 r3) (fun a21 b22=>[(2,Value.pointer (some ⟨b1,0,none⟩)),(4,Value.pointer (some ⟨b2,0,none⟩)),(5,Value.int .i64 (wI .i64 ((1:Int)+r3))),(6,Value.pointer (some ⟨b9,0,none⟩)),(7,Value.int .i64 (a21.1))]) (fun a21 b22=>[Blk b9 [b22,u7] 25,Ar Enc.raw u7 (List.replicate (Int.toNat (wI .i64 ((1:Int)+r3))) (Value.slice none 0 0)),Rws EI64I64p (List.replicate (Int.toNat (wI .i64 ((1:Int)+r3))) (Value.slice none 0 0)) (List.replicate (Int.toNat (wI .i64 ((1:Int)+r3))) ([]:List (Int×Int))),Blk b2 [Value.slice none 0 0,Value.slice none 0 0] 25,Blk b1 [Value.int .i64 (p0.1),v0,v1,v2,Value.bool (p0.2.2.2.2.1),Value.bool (p0.2.2.2.2.2)] 33,Ar EI64 b22 a21.2]) (fun a21 b22=>[Sl RI64 v0 p0.2.1,Sl RI64 v1 p0.2.2.1,Sl RI64 v2 p0.2.2.2.1]) ((0:Int),([]:List Int)) (Value.slice none 0 0) h SF (SubM.cons 1 rfl (SubM.cons 1 rfl (SubM.cons 1 rfl (SubM.cons 1 rfl (SubM.cons 1 rfl (SubM.cons 0 rfl (SubM.nil))))))) (LentAll.refl _ _) ?_
  clear h
  intro k23 a21 b22 h
  unfold _world_Net__nodes_s1 at h
  refine J.seq<|J.seq<|J.region<|J.quiet (Y.move rfl) rfl<|J.quiet (Y.move rfl) rfl<|J.quiet (Y.lss rfl rfl) rfl<|J.done<|J.thenN ?_
  refine J.condD (by exact rfl) (fun hp24=> ?_) (fun hp24=> ?_)
  ·have h:=ifP hp24 h
   refine J.skip<|J.thenN<|J.seq<|J.block<|J.seq<|J.region<|J.quiet (Y.fieldB rfl rfl rfl rfl rfl) rfl<|J.quiet (Y.loadB 4 rfl rfl rfl rfl rfl) rfl<|J.quiet (Y.move rfl) rfl ?_
   have h:=bnd h;obtain⟨r25,hr26,h⟩:=h
   refine J.loud (Loud.callL body39 (t_world_at fuel v2 r25 hr26) rfl (LentAll.cons (Lent.fact 2 rfl) .nil) (fun _ _=>rfl)) rfl fun x27=> ?_
   have h:=bnd h;obtain⟨r28,hr29,h⟩:=h
   refine J.loud (Loud.callL body38 (t_world_Within fuel  r28 hr29) rfl .nil (fun _ _=>rfl)) rfl fun x30=>J.quiet (Y.assign rfl) rfl<|J.done<|J.thenN<|J.seq<|J.midI (A:=Int) (B:=Unit) (fun a32=>_world_Net__nodes_k2 a21 (iter (_world_Net__nodes_s1 fuel p0 r3) k23) a32=some r) (fun a32 b33=>[(2,Value.pointer (some ⟨b1,0,none⟩)),(4,Value.pointer (some ⟨b2,0,none⟩)),(5,Value.int .i64 (wI .i64 ((1:Int)+r3))),(6,Value.pointer (some ⟨b9,0,none⟩)),(7,Value.int .i64 (a21.1)),(8,Value.int .i64 (a32))]) (fun a32 b33=>[Blk b9 [b22,u7] 25,Ar Enc.raw u7 (List.replicate (Int.toNat (wI .i64 ((1:Int)+r3))) (Value.slice none 0 0)),Rws EI64I64p (List.replicate (Int.toNat (wI .i64 ((1:Int)+r3))) (Value.slice none 0 0)) (List.replicate (Int.toNat (wI .i64 ((1:Int)+r3))) ([]:List (Int×Int))),Blk b2 [Value.slice none 0 0,Value.slice none 0 0] 25,Blk b1 [Value.int .i64 (p0.1),v0,v1,v2,Value.bool (p0.2.2.2.2.1),Value.bool (p0.2.2.2.2.2)] 33,Ar EI64 b22 a21.2]) (fun a32 b33=>[Sl RI64 v0 p0.2.1,Sl RI64 v1 p0.2.2.1,Sl RI64 v2 p0.2.2.2.1]) ?_ ?_
   ·refine J.seq<|J.region<|J.quiet (Y.assign rfl) rfl<|J.done<|J.thenN<|J.block<|J.loopI (A:=Int×Int) (B:=Unit) (_world_Net__nodes_s2 a21 (iter (_world_Net__nodes_s1 fuel p0 r3) k23)) (fun a41 b42=>[(2,Value.pointer (some ⟨b1,0,none⟩)),(4,Value.pointer (some ⟨b2,0,none⟩)),(5,Value.int .i64 (wI .i64 ((1:Int)+r3))),(6,Value.pointer (some ⟨b9,0,none⟩)),(7,Value.int .i64 (a21.1)),(8,Value.int .i64 (a41.1)),(9,Value.int .i64 (a41.2))]) (fun a41 b42=>[Blk b9 [b22,u7] 25,Ar Enc.raw u7 (List.replicate (Int.toNat (wI .i64 ((1:Int)+r3))) (Value.slice none 0 0)),Rws EI64I64p (List.replicate (Int.toNat (wI .i64 ((1:Int)+r3))) (Value.slice none 0 0)) (List.replicate (Int.toNat (wI .i64 ((1:Int)+r3))) ([]:List (Int×Int))),Blk b2 [Value.slice none 0 0,Value.slice none 0 0] 25,Blk b1 [Value.int .i64 (p0.1),v0,v1,v2,Value.bool (p0.2.2.2.2.1),Value.bool (p0.2.2.2.2.2)] 33,Ar EI64 b22 a21.2]) (fun a41 b42=>[Sl RI64 v0 p0.2.1,Sl RI64 v1 p0.2.2.1,Sl RI64 v2 p0.2.2.2.1]) (r28,(0:Int)) (()) h SF (SubM.refl _) (LentAll.refl _ _) ?_
    clear h
    intro k43 a41 b42 h
    unfold _world_Net__nodes_s2 at h
    refine J.seq<|J.seq<|J.region<|J.quiet (Y.move rfl) rfl<|J.quiet (Y.move rfl) rfl<|J.quiet (Y.lss rfl rfl) rfl<|J.done<|J.thenN ?_
    refine J.condD (by exact rfl) (fun hp44=> ?_) (fun hp44=> ?_)
    ·have h:=ifP hp44 h
     refine J.skip<|J.thenN<|J.seq<|J.midI (A:=Int×Int) (B:=Unit) (fun a47=>_world_Net__nodes_k3 (iter (_world_Net__nodes_s2 a21 (iter (_world_Net__nodes_s1 fuel p0 r3) k23)) k43) a47=some r) (fun a47 b48=>[(2,Value.pointer (some ⟨b1,0,none⟩)),(4,Value.pointer (some ⟨b2,0,none⟩)),(5,Value.int .i64 (wI .i64 ((1:Int)+r3))),(6,Value.pointer (some ⟨b9,0,none⟩)),(7,Value.int .i64 (a21.1)),(8,Value.int .i64 (a47.1)),(9,Value.int .i64 (a47.2))]) (fun a47 b48=>[Blk b9 [b22,u7] 25,Ar Enc.raw u7 (List.replicate (Int.toNat (wI .i64 ((1:Int)+r3))) (Value.slice none 0 0)),Rws EI64I64p (List.replicate (Int.toNat (wI .i64 ((1:Int)+r3))) (Value.slice none 0 0)) (List.replicate (Int.toNat (wI .i64 ((1:Int)+r3))) ([]:List (Int×Int))),Blk b2 [Value.slice none 0 0,Value.slice none 0 0] 25,Blk b1 [Value.int .i64 (p0.1),v0,v1,v2,Value.bool (p0.2.2.2.2.1),Value.bool (p0.2.2.2.2.2)] 33,Ar EI64 b22 a21.2]) (fun a47 b48=>[Sl RI64 v0 p0.2.1,Sl RI64 v1 p0.2.2.1,Sl RI64 v2 p0.2.2.2.1]) ?_ ?_
     ·refine J.block<|J.seq<|J.region<|J.quiet (Y.fieldB rfl rfl rfl rfl rfl) rfl<|J.quiet (Y.loadB 0 rfl rfl rfl rfl rfl) rfl<|J.quiet (Y.move rfl) rfl ?_
      have h:=ck_some h;obtain⟨hc49,h⟩:=h
      refine J.quiet (Y.indexS rfl rfl (Lent.ar (Lent.res 5 rfl) FI64) rfl rfl hc49) rfl<|J.quiet (Y.loadS0 rfl (Lent.ar (Lent.res 5 rfl) FI64) rfl rfl rfl RI64c0 hc49) rfl<|J.quiet (Y.move rfl) rfl<|J.quiet (Y.eql rfl rfl) rfl<|J.done<|J.thenN ?_
      refine J.condD (by exact rfl) (fun hp50=> ?_) (fun hp50=> ?_)
      ·have h:=ifP hp50 h
       refine J.region<|J.quiet (Y.move rfl) rfl<|J.quiet (Y.addW rfl rfl) rfl ?_
       have h:=ck_some h;obtain⟨hc51,h⟩:=h
       refine J.quiet (Y.rem rfl rfl hc51) rfl<|J.quiet (Y.assign rfl) rfl<|J.quiet (Y.assign rfl) rfl<|J.done<|J.inN<|J.thenN ?_
       exact J.meetI ((Int.tmod (wI .i64 (a41.1+(1:Int))) (256:Int)),(-1:Int)) (()) h SF (SubM.refl _) (LentAll.refl _ _)
      ·have h:=ifN hp50 h
       refine J.skip<|J.inN<|J.thenN ?_
       exact J.meetI (a41.1,a41.2) (()) h SF (SubM.refl _) (LentAll.refl _ _)
     ·clear h
      intro a47 b48 h
      unfold _world_Net__nodes_k3 at h
      refine J.region<|J.quiet (Y.move rfl) rfl<|J.quiet (Y.addW rfl rfl) rfl<|J.quiet (Y.assign rfl) rfl<|J.done<|J.thenN ?_
      exact J.againI (a47.1,(wI .i64 (a47.2+(1:Int)))) (()) h SF (SubM.refl _) (LentAll.refl _ _)
    ·have h:=ifN hp44 h
     refine J.exit<|J.thenX<|J.thenX<|J.inX<|J.thenN ?_
     exact J.meetI (a41.1) (()) h SF (SubM.refl _) (LentAll.refl _ _)
   ·clear h
    intro a32 b33 h
    unfold _world_Net__nodes_k2 at h
    refine J.region<|J.quiet (Y.fieldB rfl rfl rfl rfl rfl) rfl<|J.quiet (Y.loadB 0 rfl rfl rfl rfl rfl) rfl<|J.quiet (Y.move rfl) rfl<|J.loud (Loud.buildS (e:=EI64) ([a32]) [(0,Value.int .i64 (a32))] rfl rfl rfl rfl (fill_1_1 (Value.int .i64 (a32)) rfl) rfl rfl rfl) rfl fun u34=> ?_
    have h:=ck_some h;obtain⟨hc36,h⟩:=h
    refine J.loud (Loud.appendL 6 FI64 rfl rfl rfl (Lent.ar (Lent.res 0 rfl) FI64) rfl rfl rfl rfl hc36 rfl) rfl fun u35=>J.quiet (Y.fieldB rfl rfl rfl rfl rfl) rfl<|J.know (Know.one ((Lent.ar (Lent.res 6 rfl) FI64))) fun ho37=>J.store1 1 rfl rfl ho37 rfl rfl rfl<|J.done<|J.inN<|J.thenN<|J.region<|J.quiet (Y.move rfl) rfl<|J.quiet (Y.addW rfl rfl) rfl<|J.quiet (Y.assign rfl) rfl<|J.done<|J.thenN ?_
    exact J.againI ((wI .i64 (a21.1+(1:Int))),(a21.2++[a32])) (u35) h SF (SubM.cons 1 rfl (SubM.cons 1 rfl (SubM.cons 1 rfl (SubM.cons 1 rfl (SubM.cons 1 rfl (SubM.cons 1 rfl (SubM.nil))))))) (LentAll.refl _ _)
  ·have h:=ifN hp24 h
   refine J.exit<|J.thenX<|J.thenX<|J.inX<|J.thenN ?_
   exact J.meetI (a21.2) (b22) h SF (SubM.cons 0 rfl (SubM.cons 0 rfl (SubM.cons 0 rfl (SubM.cons 0 rfl (SubM.cons 1 rfl (SubM.nil)))))) (LentAll.refl _ _)
 ·clear h
  intro a13 b14 h
  unfold _world_Net__nodes_k1 at h
  refine J.seq<|J.region<|J.quiet (Y.loadBAll 0 rfl rfl rfl rfl) rfl<|J.know (Know.one ((Lent.ar (Lent.res 4 rfl) FI64))) fun ho15=>J.know (Know.one (Lent.sl (Lent.rows (i:=1) (j:=2) rfl rfl FI64I64p))) fun ho16=>J.storeAll 3 (vs:=[b14,u7]) rfl rfl (all1 ho15 (all1 ho16 rfl)) rfl rfl rfl<|J.done<|J.thenN<|J.ret ?_
  obtain rfl:=Option.some.inj h
  exact J.retG1 (b14,u7,(List.replicate (Int.toNat (wI .i64 ((1:Int)+r3))) (Value.slice none 0 0))) rfl rfl (RV.cell 3 rfl rfl rfl rfl) (SubM.cons 4 rfl (SubM.cons 1 rfl (SubM.cons 1 rfl (SubM.nil)))) LentAll.nil
end Go.Proofs.YtfimaabbclepbaaGreat
end
section
namespace Go.Proofs.YtfimaabbclepbaaGreat
open Go.Sx
def world_linked_k1  (a2:Unit):Option (Bool):=
 some (false)
def world_linked_s1 (p0:List (Int)×(List (List (Int×Int)))) (p1:Int) (p2:Int) (a6:Int) (ag5:(Int)->Option (Bool)):Option (Bool):=
 ck (0<=p1∧p1<(List.length p0.2:Int)) (if a6<(List.length (at' p0.2 p1):Int)then(ck (0<=p1∧p1<(List.length p0.2:Int)) (ck (0<=a6∧a6<(List.length (at' p0.2 p1):Int)) (if((at' (at' p0.2 p1) a6).1)=p2 then(some (true))else(ag5 (wI .i64 (a6+(1:Int)))))))else(world_linked_k1  (())))
def m_world_linked (fuel:Nat) (p0:List (Int)×(List (List (Int×Int)))) (p1:Int) (p2:Int):Option (Bool):=
 iter (world_linked_s1 p0 p1 p2) fuel (0:Int)
theorem body55:HasBody Tryz.prog 55:=Tryz.call55
theorem t_world_linked (fuel:Nat) {p0:List (Int)×(List (List (Int×Int)))} {p1:Int} {p2:Int} (v0:Value)  (v1:Value)  (z2:List (Value×List (Int×Int))) (r:Bool) (h:m_world_linked fuel p0 p1 p2=some r):
  Meets Tryz.prog 55 #[Value.agg #[v0,v1],Value.int .i64 (p1),Value.int .i64 (p2)] [Sl RI64 v0 p0.1,S2 RI64I64p v1 z2 p0.2] (fun x:Unit=>Value.bool (r)) (fun x l=>l) (fun _ l=>l):=by
 refine Meets.of (vs:=[Value.agg #[v0,v1],Value.int .i64 (p1),Value.int .i64 (p2)]) Tryz.func55 rfl Tryz.ntmps55 rfl fun c=> ?_
 unfold m_world_linked at h
 refine J.seq<|J.region<|J.loud (Loud.box (cs:=[v0,v1]) rfl rfl) rfl fun b1=>J.quiet (Y.assign rfl) rfl<|J.done<|J.thenN<|J.seq<|J.midI (A:=Unit) (B:=Unit) (fun a2=>world_linked_k1  a2=some r) (fun a2 b3=>[]) (fun a2 b3=>[]) (fun a2 b3=>[Sl RI64 v0 p0.1,S2 RI64I64p v1 z2 p0.2]) ?_ ?_
 ·refine J.seq<|J.region<|J.quiet (Y.assign rfl) rfl<|J.done<|J.thenN<|J.block<|J.loopI (A:=Int) (B:=Unit) (world_linked_s1 p0 p1 p2) (fun a6 b7=>[(1,Value.int .i64 (p1)),(2,Value.int .i64 (p2)),(3,Value.pointer (some ⟨b1,0,none⟩)),(7,Value.int .i64 (a6))]) (fun a6 b7=>[Blk b1 [v0,v1] 25]) (fun a6 b7=>[Sl RI64 v0 p0.1,S2 RI64I64p v1 z2 p0.2]) (0:Int) (()) h SF (SubM.refl _) (LentAll.refl _ _) ?_
  clear h
  intro k8 a6 b7 h
  unfold world_linked_s1 at h
  refine J.seq<|J.seq<|J.region<|J.quiet (Y.move rfl) rfl<|J.quiet (Y.fieldB rfl rfl rfl rfl rfl) rfl<|J.quiet (Y.loadB 0 rfl rfl rfl rfl rfl) rfl<|J.quiet (Y.move rfl) rfl ?_
  have h:=ck_some h;obtain⟨hc9,h⟩:=h
  refine J.quiet (Y.indexN rfl rfl (Lent.fact 1 rfl) rfl rfl hc9) rfl<|J.quiet (Y.loadRow rfl (Lent.fact 1 rfl) rfl rfl hc9) rfl<|J.quiet (Y.lenS rfl (Lent.el (Lent.fact 1 rfl) hc9.1 hc9.2) rfl) rfl<|J.quiet (Y.lss rfl rfl) rfl<|J.done<|J.thenN ?_
  refine J.condD (by exact rfl) (fun hp10=> ?_) (fun hp10=> ?_)
  ·have h:=ifP hp10 h
   refine J.skip<|J.thenN<|J.seq<|J.block<|J.seq<|J.region<|J.quiet (Y.fieldB rfl rfl rfl rfl rfl) rfl<|J.quiet (Y.loadB 0 rfl rfl rfl rfl rfl) rfl<|J.quiet (Y.move rfl) rfl ?_
   have h:=ck_some h;obtain⟨hc11,h⟩:=h
   refine J.quiet (Y.indexN rfl rfl (Lent.fact 1 rfl) rfl rfl hc11) rfl<|J.quiet (Y.loadRow rfl (Lent.fact 1 rfl) rfl rfl hc11) rfl<|J.quiet (Y.move rfl) rfl ?_
   have h:=ck_some h;obtain⟨hc12,h⟩:=h
   refine J.quiet (Y.indexS rfl rfl (Lent.el (Lent.fact 1 rfl) hc11.1 hc11.2) rfl rfl hc12) rfl<|J.quiet (Y.fieldEl rfl rfl rfl rfl rfl) rfl<|J.quiet (Y.loadS rfl (Lent.el (Lent.fact 1 rfl) hc11.1 hc11.2) rfl rfl rfl RI64I64pc0 hc12) rfl<|J.quiet (Y.move rfl) rfl<|J.quiet (Y.eql rfl rfl) rfl<|J.done<|J.thenN ?_
   refine J.condD (by exact rfl) (fun hp13=> ?_) (fun hp13=> ?_)
   ·have h:=ifP hp13 h
    refine J.seq<|J.region<|J.quiet (Y.assign rfl) rfl<|J.done<|J.thenN<|J.ret<|J.inR<|J.thenR<|J.thenR<|J.inR<|J.thenR ?_
    obtain rfl:=Option.some.inj h
    exact J.retG1 (()) rfl rfl (RV.tmp rfl) (SubM.nil) LentAll.nil
   ·have h:=ifN hp13 h
    refine J.skip<|J.inN<|J.thenN<|J.region<|J.quiet (Y.move rfl) rfl<|J.quiet (Y.addW rfl rfl) rfl<|J.quiet (Y.assign rfl) rfl<|J.done<|J.thenN ?_
    exact J.againI (wI .i64 (a6+(1:Int))) (()) h SF (SubM.refl _) (LentAll.refl _ _)
  ·have h:=ifN hp10 h
   refine J.exit<|J.thenX<|J.thenX<|J.inX<|J.thenN ?_
   exact J.meetI (()) (()) h SF (SubM.nil) (LentAll.refl _ _)
 ·clear h
  intro a2 b3 h
  unfold world_linked_k1 at h
  refine J.seq<|J.region<|J.quiet (Y.assign rfl) rfl<|J.done<|J.thenN<|J.ret ?_
  obtain rfl:=Option.some.inj h
  exact J.retG1 (()) rfl rfl (RV.tmp rfl) (SubM.refl _) LentAll.nil
end Go.Proofs.YtfimaabbclepbaaGreat
end
section
namespace Go.Proofs.YtfimaabbclepbaaGreat
open Go.Sx
def _world_Net__link_k1 (p0:Int×List (Int)×List (Int)×List (Int)×Bool×Bool) (p1:List (Int)×(List (List (Int×Int)))) (p2:Int) (p3:Int) (p4:Int) (a4:Bool):Option ((List (List (Int×Int)))):=
 if a4=true then(some (p1.2))else(if p0.2.2.2.2.2=true then(ck (0<=p2∧p2<(List.length p1.2:Int)) (ck ((List.length ([(p3,p4)]):Int)+(List.length (at' p1.2 p2):Int)<=1099511627) (ck (0<=p2∧p2<(List.length p1.2:Int)) (ck (0<=p3∧p3<(List.length (List.set p1.2 (Int.toNat p2) (([(p3,p4)])++(at' p1.2 p2))):Int)) (ck ((List.length ([(p2,p4)]):Int)+(List.length (at' (List.set p1.2 (Int.toNat p2) (([(p3,p4)])++(at' p1.2 p2))) p3):Int)<=1099511627) (ck (0<=p3∧p3<(List.length (List.set p1.2 (Int.toNat p2) (([(p3,p4)])++(at' p1.2 p2))):Int)) (some (List.set (List.set p1.2 (Int.toNat p2) (([(p3,p4)])++(at' p1.2 p2))) (Int.toNat p3) (([(p2,p4)])++(at' (List.set p1.2 (Int.toNat p2) (([(p3,p4)])++(at' p1.2 p2))) p3))))))))))else(ck (0<=p2∧p2<(List.length p1.2:Int)) (ck (0<=p3∧p3<(List.length p1.2:Int)) (ck ((List.length (at' p1.2 p2):Int)+(List.length ([(p3,p4)]):Int)<=1099511627) (ck ((List.length (at' p1.2 p3):Int)+(List.length ([(p2,p4)]):Int)<=1099511627) (ck (Int.toNat p2≠Int.toNat p3) (ck (0<=p2∧p2<(List.length (List.set (List.set p1.2 (Int.toNat p2) ((at' p1.2 p2)++([(p3,p4)]))) (Int.toNat p3) ((at' p1.2 p3)++([(p2,p4)]))):Int)) (ck (0<=p3∧p3<(List.length (List.set (List.set p1.2 (Int.toNat p2) ((at' p1.2 p2)++([(p3,p4)]))) (Int.toNat p3) ((at' p1.2 p3)++([(p2,p4)]))):Int)) (some (List.set (List.set p1.2 (Int.toNat p2) ((at' p1.2 p2)++([(p3,p4)]))) (Int.toNat p3) ((at' p1.2 p3)++([(p2,p4)]))))))))))))
def m__world_Net__link (fuel:Nat) (p0:Int×List (Int)×List (Int)×List (Int)×Bool×Bool) (p1:List (Int)×(List (List (Int×Int)))) (p2:Int) (p3:Int) (p4:Int):Option ((List (List (Int×Int)))):=
 if p2=p3 then(_world_Net__link_k1 p0 p1 p2 p3 p4 (true))else(Option.bind (m_world_linked fuel ((p1.1,p1.2)) p2 p3) fun r86=>(_world_Net__link_k1 p0 p1 p2 p3 p4 (r86)))
theorem body43:HasBody Tryz.prog 43:=Tryz.call43
theorem t__world_Net__link (fuel:Nat) {p0:Int×List (Int)×List (Int)×List (Int)×Bool×Bool} {p1:List (Int)×(List (List (Int×Int)))} {p2:Int} {p3:Int} {p4:Int} (v0:Value)  (v1:Value)  (v2:Value)  (v3:Value)  (v4:Value)  (w5:List Value) (r:(List (List (Int×Int)))) (h:m__world_Net__link fuel p0 p1 p2 p3 p4=some r):
  MeetsM Tryz.prog 43 #[Value.agg #[Value.int .i64 (p0.1),v0,v1,v2,Value.bool (p0.2.2.2.2.1),Value.bool (p0.2.2.2.2.2)],Value.agg #[v3,v4],Value.int .i64 (p2),Value.int .i64 (p3),Value.int .i64 (p4)] [Ar Enc.raw v4 w5,Rws EI64I64p w5 p1.2] [Sl RI64 v0 p0.2.1,Sl RI64 v1 p0.2.2.1,Sl RI64 v2 p0.2.2.2.1,Sl RI64 v3 p1.1] (fun x:List Value=>Value.tuple #[]) (fun x l=>Ar Enc.raw v4 x::Rws EI64I64p x r::l):=by
 refine MeetsM.of (vs:=[Value.agg #[Value.int .i64 (p0.1),v0,v1,v2,Value.bool (p0.2.2.2.2.1),Value.bool (p0.2.2.2.2.2)],Value.agg #[v3,v4],Value.int .i64 (p2),Value.int .i64 (p3),Value.int .i64 (p4)]) Tryz.func43 rfl Tryz.ntmps43 rfl fun c=> ?_
 unfold m__world_Net__link at h
 refine J.seq<|J.region<|J.loud (Loud.box (cs:=[Value.int .i64 (p0.1),v0,v1,v2,Value.bool (p0.2.2.2.2.1),Value.bool (p0.2.2.2.2.2)]) rfl rfl) rfl fun b1=>J.loud (Loud.box (cs:=[v3,v4]) rfl rfl) rfl fun b2=>J.done<|J.thenN<|J.seq<|J.seq<|J.midI (A:=Bool) (B:=Unit) (fun a4=>_world_Net__link_k1 p0 p1 p2 p3 p4 a4=some r) (fun a4 b5=>[(2,Value.int .i64 (p2)),(3,Value.int .i64 (p3)),(4,Value.int .i64 (p4)),(5,Value.pointer (some ⟨b1,0,none⟩)),(6,Value.pointer (some ⟨b2,0,none⟩)),(20,Value.bool (a4))]) (fun a4 b5=>[Blk b2 [v3,v4] 25,Blk b1 [Value.int .i64 (p0.1),v0,v1,v2,Value.bool (p0.2.2.2.2.1),Value.bool (p0.2.2.2.2.2)] 33,Ar Enc.raw v4 w5,Rws EI64I64p w5 p1.2]) (fun a4 b5=>[Sl RI64 v0 p0.2.1,Sl RI64 v1 p0.2.2.1,Sl RI64 v2 p0.2.2.2.1,Sl RI64 v3 p1.1]) ?_ ?_
 ·refine J.region<|J.quiet (Y.move rfl) rfl<|J.quiet (Y.move rfl) rfl<|J.quiet (Y.eql rfl rfl) rfl<|J.quiet (Y.move rfl) rfl ?_
  refine J.guardD (by exact rfl) (by exact rfl) (fun hp85=> ?_) (fun hp85=> ?_)
  ·have h:=ifP hp85 h
   refine J.guardN rfl rfl rfl<|J.guardN rfl rfl rfl<|J.guardN rfl rfl rfl<|J.guardN rfl rfl rfl<|J.quiet (Y.pickT rfl rfl) rfl<|J.done<|J.thenN ?_
   exact J.meetI (true) (()) h SF (SubM.refl _) (LentAll.refl _ _)
  ·have h:=ifN hp85 h
   refine J.guardY rfl (Y.loadBAll 0 rfl rfl rfl rfl) rfl<|J.guardY rfl (Y.move rfl) rfl<|J.guardY rfl (Y.move rfl) rfl ?_
   have h:=bnd h;obtain⟨r86,hr87,h⟩:=h
   refine J.loudG rfl (Loud.callL body55 (t_world_linked fuel v3 v4 (List.zip w5 p1.2) r86 hr87) rfl (LentAll.cons (Lent.fact 3 rfl) (LentAll.cons (Lent.rows (i:=2) (j:=3) rfl rfl FI64I64p) .nil)) (fun _ _=>rfl)) rfl fun x88=>J.quiet (Y.pickF rfl rfl) rfl<|J.done<|J.thenN ?_
   exact J.meetI (r86) (()) h SF (SubM.refl _) (LentAll.refl _ _)
 ·clear h
  intro a4 b5 h
  unfold _world_Net__link_k1 at h
  refine J.cond (by exact rfl) (fun hp6=> ?_) (fun hp6=> ?_)
  ·have h:=ifP hp6 h
   refine J.ret<|J.thenR ?_
   obtain rfl:=Option.some.inj h
   exact J.retG0 (w5) rfl rfl .ret (.inl rfl) (SubM.cons 2 rfl (SubM.cons 2 rfl (SubM.nil))) LentAll.nil
  ·have h:=ifBN hp6 h
   refine J.skip<|J.thenN<|J.seq<|J.region<|J.quiet (Y.move rfl) rfl<|J.quiet (Y.move rfl) rfl ?_
   refine J.quiet (Y.bld2 (r:=Value.agg #[Value.int .i64 (p3),Value.int .i64 (p4)]) rfl rfl (by intro w;simp[Instr.build,Instr.fill,cells_intV,cells_boolV,cells_sliceV,cells_ptrV,cells_strV,cells_funcV,cells_agg])) rfl ?_
   refine J.quiet (Y.move rfl) rfl<|J.quiet (Y.move rfl) rfl ?_
   refine J.quiet (Y.bld2 (r:=Value.agg #[Value.int .i64 (p2),Value.int .i64 (p4)]) rfl rfl (by intro w;simp[Instr.build,Instr.fill,cells_intV,cells_boolV,cells_sliceV,cells_ptrV,cells_strV,cells_funcV,cells_agg])) rfl ?_
   refine J.loud (Loud.alloc (cs:=[Value.int .i64 (0:Int),Value.int .i64 (0:Int)]) rfl rfl) rfl fun b7=>J.loud (Loud.alloc (cs:=[Value.int .i64 (0:Int),Value.int .i64 (0:Int)]) rfl rfl) rfl fun b8=>J.storeAll 1 (vs:=[Value.int .i64 (p3),Value.int .i64 (p4)]) rfl rfl rfl rfl rfl rfl<|J.storeAll 0 (vs:=[Value.int .i64 (p2),Value.int .i64 (p4)]) rfl rfl rfl rfl rfl rfl<|J.done<|J.thenN<|J.seq<|J.seq<|J.region<|J.quiet (Y.fieldB rfl rfl rfl rfl rfl) rfl<|J.quiet (Y.loadB 3 rfl rfl rfl rfl rfl) rfl<|J.done<|J.thenN ?_
   refine J.cond (by exact rfl) (fun hp9=> ?_) (fun hp9=> ?_)
   ·have h:=ifP hp9 h
    refine J.seq ?_
    refine JR.start [0,1,0,0,8,0,32,0,224,480,1016,2047,4095] 11 mixedOrders (by decide +kernel) ?_
    refine JR.open (by exact rfl) ?_
    refine JR.qt rfl (SubM.nil) (SubL.nil) (Y.fieldB rfl rfl rfl rfl rfl) HistOk.z<|JR.qt rfl (SubM.cons 2 rfl (SubM.nil)) (SubL.nil) (Y.loadB 0 rfl rfl rfl rfl rfl) HistOk.z<|JR.qt rfl (SubM.nil) (SubL.nil) (Y.move rfl) HistOk.z<|JR.qt rfl (SubM.cons 1 rfl (SubM.nil)) (SubL.nil) (Y.loadBAll 0 rfl rfl rfl rfl) HistOk.z<|JR.loud rfl rfl rfl (Loud.buildS (e:=EI64I64p) ([((p3,p4))]) [(0,Value.agg #[Value.int .i64 (p3),Value.int .i64 (p4)])] rfl rfl rfl rfl (fill_1_2 (Value.int .i64 (p3)) (Value.int .i64 (p4))) rfl rfl rfl) rfl (fun u10=>(BsOk.b rfl (BsOk.h (SubM.nil) (SubL.nil) (BsOk.h (SubM.cons 3 rfl (SubM.nil)) (SubL.nil) (BsOk.h (SubM.nil) (SubL.nil) BsOk.z))))) fun u10=>JR.qt rfl (SubM.nil) (SubL.nil) (Y.fieldB rfl rfl rfl rfl rfl) (HistOk.h (SubM.nil) (SubL.nil) HistOk.z)<|JR.qt rfl (SubM.cons 3 rfl (SubM.nil)) (SubL.nil) (Y.loadB 0 rfl rfl rfl rfl rfl) (HistOk.h (SubM.cons 2 rfl (SubM.nil)) (SubL.nil) HistOk.z)<|JR.qt rfl (SubM.nil) (SubL.nil) (Y.move rfl) (HistOk.h (SubM.nil) (SubL.nil) HistOk.z) ?_
    have h:=ck_some h;obtain⟨hc11,h⟩:=h
    refine JR.know (Know.rws 6 rfl) fun hl12=> ?_
    refine JR.qt rfl (SubM.cons 5 rfl (SubM.nil)) (SubL.nil) (Y.indexA 0 rfl rfl rfl rfl rfl hc11.1 (by have q1:=hc11.2;have q2:=hl12;(try simp only[List.length_set]at q1);(try simp only[List.length_set]at q2);(try simp only[List.length_set]);omega)) (HistOk.h (SubM.cons 4 rfl (SubM.nil)) (SubL.nil) HistOk.z) ?_
    refine JR.know (Know.rws 6 rfl) fun hl13=>JR.qt rfl (SubM.cons 5 rfl (SubM.nil)) (SubL.nil) (Y.loadRaw 0 rfl rfl hl13 rfl rfl hc11) (HistOk.h (SubM.cons 4 rfl (SubM.nil)) (SubL.nil) HistOk.z) ?_
    have h:=ck_some h;obtain⟨hc15,h⟩:=h
    refine JR.loud rfl rfl rfl (Loud.appendL 0 FI64I64p rfl rfl rfl (Lent.row (j:=6) rfl FI64I64p hc11.1 hc11.2) rfl rfl rfl rfl hc15 rfl) rfl (fun u14=>(BsOk.b rfl (BsOk.b rfl (BsOk.b rfl (BsOk.b rfl (BsOk.b rfl (BsOk.b rfl (BsOk.h (SubM.nil) (SubL.nil) (BsOk.h (SubM.cons 3 rfl (SubM.nil)) (SubL.nil) (BsOk.h (SubM.nil) (SubL.nil) BsOk.z)))))))))) fun u14=>JR.tailD 11 rfl rfl ?_
    have h:=ck_some h;obtain⟨hc16,h⟩:=h
    refine J.quiet (Y.indexN rfl rfl (Lent.rows (i:=5) (j:=6) rfl rfl FI64I64p) rfl rfl hc16) rfl<|J.know (Know.one ((Lent.ar (Lent.res 0 rfl) FI64I64p))) fun ho17=>J.stp (Stp.putRow (k:=p2) 6 0 rfl rfl rfl hc16) ?_
    refine J.storeRow 4 5 ⟨hc16.1,by first|exact hc16.2|simpa using hc16.2⟩ rfl rfl rfl rfl rfl (by simp) ho17 rfl ?_
    refine J.done<|J.thenN<|J.seq ?_
    refine JR.start [0,1,0,0,8,0,32,0,224,480,1016,2047,4095] 11 mixedOrders (by decide +kernel) ?_
    refine JR.open (by exact rfl) ?_
    refine JR.qt rfl (SubM.nil) (SubL.nil) (Y.fieldB rfl rfl rfl rfl rfl) HistOk.z<|JR.qt rfl (SubM.cons 2 rfl (SubM.nil)) (SubL.nil) (Y.loadB 0 rfl rfl rfl rfl rfl) HistOk.z<|JR.qt rfl (SubM.nil) (SubL.nil) (Y.move rfl) HistOk.z<|JR.qt rfl (SubM.cons 0 rfl (SubM.nil)) (SubL.nil) (Y.loadBAll 0 rfl rfl rfl rfl) HistOk.z<|JR.loud rfl rfl rfl (Loud.buildS (e:=EI64I64p) ([((p2,p4))]) [(0,Value.agg #[Value.int .i64 (p2),Value.int .i64 (p4)])] rfl rfl rfl rfl (fill_1_2 (Value.int .i64 (p2)) (Value.int .i64 (p4))) rfl rfl rfl) rfl (fun u18=>(BsOk.b rfl (BsOk.h (SubM.nil) (SubL.nil) (BsOk.h (SubM.cons 3 rfl (SubM.nil)) (SubL.nil) (BsOk.h (SubM.nil) (SubL.nil) BsOk.z))))) fun u18=>JR.qt rfl (SubM.nil) (SubL.nil) (Y.fieldB rfl rfl rfl rfl rfl) (HistOk.h (SubM.nil) (SubL.nil) HistOk.z)<|JR.qt rfl (SubM.cons 3 rfl (SubM.nil)) (SubL.nil) (Y.loadB 0 rfl rfl rfl rfl rfl) (HistOk.h (SubM.cons 2 rfl (SubM.nil)) (SubL.nil) HistOk.z)<|JR.qt rfl (SubM.nil) (SubL.nil) (Y.move rfl) (HistOk.h (SubM.nil) (SubL.nil) HistOk.z) ?_
    have h:=ck_some h;obtain⟨hc19,h⟩:=h
    refine JR.know (Know.rws 6 rfl) fun hl20=> ?_
    refine JR.qt rfl (SubM.cons 5 rfl (SubM.nil)) (SubL.nil) (Y.indexA 0 rfl rfl rfl rfl rfl hc19.1 (by have q1:=hc19.2;have q2:=hl20;(try simp only[List.length_set]at q1);(try simp only[List.length_set]at q2);(try simp only[List.length_set]);omega)) (HistOk.h (SubM.cons 4 rfl (SubM.nil)) (SubL.nil) HistOk.z) ?_
    refine JR.know (Know.rws 6 rfl) fun hl21=>JR.qt rfl (SubM.cons 5 rfl (SubM.nil)) (SubL.nil) (Y.loadRaw 0 rfl rfl hl21 rfl rfl hc19) (HistOk.h (SubM.cons 4 rfl (SubM.nil)) (SubL.nil) HistOk.z) ?_
    have h:=ck_some h;obtain⟨hc23,h⟩:=h
    refine JR.loud rfl rfl rfl (Loud.appendL 0 FI64I64p rfl rfl rfl (Lent.row (j:=6) rfl FI64I64p hc19.1 hc19.2) rfl rfl rfl rfl hc23 rfl) rfl (fun u22=>(BsOk.b rfl (BsOk.b rfl (BsOk.b rfl (BsOk.b rfl (BsOk.b rfl (BsOk.b rfl (BsOk.h (SubM.nil) (SubL.nil) (BsOk.h (SubM.cons 3 rfl (SubM.nil)) (SubL.nil) (BsOk.h (SubM.nil) (SubL.nil) BsOk.z)))))))))) fun u22=>JR.tailD 11 rfl rfl ?_
    have h:=ck_some h;obtain⟨hc24,h⟩:=h
    refine J.quiet (Y.indexN rfl rfl (Lent.rows (i:=5) (j:=6) rfl rfl FI64I64p) rfl rfl hc24) rfl<|J.know (Know.one ((Lent.ar (Lent.res 0 rfl) FI64I64p))) fun ho25=>J.stp (Stp.putRow (k:=p3) 6 0 rfl rfl rfl hc24) ?_
    refine J.storeRow 4 5 ⟨hc24.1,by first|exact hc24.2|simpa using hc24.2⟩ rfl rfl rfl rfl rfl (by simp) ho25 rfl ?_
    refine J.done<|J.thenN<|J.ret<|J.thenR ?_
    obtain rfl:=Option.some.inj h
    exact J.retG0 (List.set (List.set w5 (Int.toNat p2) u14) (Int.toNat p3) u22) rfl rfl .ret (.inl rfl) (SubM.cons 4 rfl (SubM.cons 4 rfl (SubM.nil))) LentAll.nil
   ·have h:=ifBN hp9 h
    refine J.skip<|J.thenN ?_
    have h:=ck_some h;obtain⟨hc26,h⟩:=h
    have h:=ck_some h;obtain⟨hc29,h⟩:=h
    have h:=ck_some h;obtain⟨hc34,h⟩:=h
    have h:=ck_some h;obtain⟨hc37,h⟩:=h
    have h:=ck_some h;obtain⟨hc38,h⟩:=h
    have h:=ck_some h;obtain⟨hc39,h⟩:=h
    have h:=ck_some h;obtain⟨hc43,h⟩:=h
    refine JR.orders [0,1,0,0,8,0,0,64,0,448,960,0,2048,8128,0,16384,0,114688,245760,0,524288,2097088,4194247,8388551,16777215,33554431] 24 [[0,1,2,3,4,5,6,7,8,9,10,11,14,15,16,17,18,19,12,13,20,21,22,23,24,25],[0,1,2,3,4,5,6,7,8,9,10,11,14,15,16,17,18,19,12,20,13,21,22,23,24,25],[0,1,2,3,4,5,6,7,8,9,10,11,14,15,16,17,18,19,20,12,13,21,22,23,24,25]] mixedOrders (by decide +kernel) (by decide +kernel) ?_
    intro o ho
    simp only[List.mem_cons,List.not_mem_nil,or_false]at ho
    rcases ho with rfl|rfl|rfl
    ·refine JR.qt rfl (SubM.nil) (SubL.nil) (Y.fieldB rfl rfl rfl rfl rfl) HistOk.z<|JR.qt rfl (SubM.cons 2 rfl (SubM.nil)) (SubL.nil) (Y.loadB 0 rfl rfl rfl rfl rfl) HistOk.z<|JR.qt rfl (SubM.nil) (SubL.nil) (Y.move rfl) HistOk.z<|JR.qt rfl (SubM.nil) (SubL.nil) (Y.fieldB rfl rfl rfl rfl rfl) HistOk.z<|JR.qt rfl (SubM.cons 2 rfl (SubM.nil)) (SubL.nil) (Y.loadB 0 rfl rfl rfl rfl rfl) HistOk.z<|JR.qt rfl (SubM.nil) (SubL.nil) (Y.move rfl) HistOk.z<|JR.qt rfl (SubM.nil) (SubL.nil) (Y.fieldB rfl rfl rfl rfl rfl) HistOk.z<|JR.qt rfl (SubM.cons 2 rfl (SubM.nil)) (SubL.nil) (Y.loadB 0 rfl rfl rfl rfl rfl) HistOk.z<|JR.qt rfl (SubM.nil) (SubL.nil) (Y.move rfl) HistOk.z<|JR.know (Know.rws 5 rfl) fun hl46=> ?_
     refine JR.qt rfl (SubM.cons 4 rfl (SubM.nil)) (SubL.nil) (Y.indexA 0 rfl rfl rfl rfl rfl hc26.1 (by have q1:=hc26.2;have q2:=hl46;(try simp only[List.length_set]at q1);(try simp only[List.length_set]at q2);(try simp only[List.length_set]);omega)) HistOk.z ?_
     refine JR.know (Know.rws 5 rfl) fun hl47=>JR.qt rfl (SubM.cons 4 rfl (SubM.nil)) (SubL.nil) (Y.loadRaw 0 rfl rfl hl47 rfl rfl hc26) HistOk.z<|JR.qt rfl (SubM.cons 1 rfl (SubM.nil)) (SubL.nil) (Y.loadBAll 0 rfl rfl rfl rfl) HistOk.z<|JR.qt rfl (SubM.nil) (SubL.nil) (Y.fieldB rfl rfl rfl rfl rfl) HistOk.z<|JR.qt rfl (SubM.cons 2 rfl (SubM.nil)) (SubL.nil) (Y.loadB 0 rfl rfl rfl rfl rfl) HistOk.z<|JR.qt rfl (SubM.nil) (SubL.nil) (Y.move rfl) HistOk.z<|JR.know (Know.rws 5 rfl) fun hl48=> ?_
     refine JR.qt rfl (SubM.cons 4 rfl (SubM.nil)) (SubL.nil) (Y.indexA 0 rfl rfl rfl rfl rfl hc29.1 (by have q1:=hc29.2;have q2:=hl48;(try simp only[List.length_set]at q1);(try simp only[List.length_set]at q2);(try simp only[List.length_set]);omega)) HistOk.z ?_
     refine JR.know (Know.rws 5 rfl) fun hl49=>JR.qt rfl (SubM.cons 4 rfl (SubM.nil)) (SubL.nil) (Y.loadRaw 0 rfl rfl hl49 rfl rfl hc29) HistOk.z<|JR.qt rfl (SubM.cons 0 rfl (SubM.nil)) (SubL.nil) (Y.loadBAll 0 rfl rfl rfl rfl) HistOk.z<|JR.loud rfl rfl rfl (Loud.buildS (e:=EI64I64p) ([((p3,p4))]) [(0,Value.agg #[Value.int .i64 (p3),Value.int .i64 (p4)])] rfl rfl rfl rfl (fill_1_2 (Value.int .i64 (p3)) (Value.int .i64 (p4))) rfl rfl rfl) rfl (fun u50=>(BsOk.h (SubM.cons 1 rfl (SubM.nil)) (SubL.nil) (BsOk.h (SubM.cons 5 rfl (SubM.nil)) (SubL.nil) (BsOk.h (SubM.cons 5 rfl (SubM.nil)) (SubL.nil) (BsOk.h (SubM.nil) (SubL.nil) (BsOk.h (SubM.cons 3 rfl (SubM.nil)) (SubL.nil) (BsOk.h (SubM.nil) (SubL.nil) (BsOk.b rfl (BsOk.h (SubM.cons 5 rfl (SubM.nil)) (SubL.nil) (BsOk.h (SubM.cons 5 rfl (SubM.nil)) (SubL.nil) (BsOk.h (SubM.nil) (SubL.nil) (BsOk.h (SubM.cons 3 rfl (SubM.nil)) (SubL.nil) (BsOk.h (SubM.nil) (SubL.nil) (BsOk.h (SubM.nil) (SubL.nil) (BsOk.h (SubM.cons 3 rfl (SubM.nil)) (SubL.nil) (BsOk.h (SubM.nil) (SubL.nil) (BsOk.h (SubM.nil) (SubL.nil) (BsOk.h (SubM.cons 3 rfl (SubM.nil)) (SubL.nil) (BsOk.h (SubM.nil) (SubL.nil) BsOk.z))))))))))))))))))) fun u50=>JR.loud rfl rfl rfl (Loud.appendRowL 6 FI64I64p rfl rfl rfl (Lent.ar (Lent.res 0 rfl) FI64I64p) rfl rfl rfl rfl hc26 hc34 rfl) rfl (fun u51=>(BsOk.h (SubM.cons 1 rfl (SubM.nil)) (SubL.nil) (BsOk.h (SubM.cons 5 rfl (SubM.nil)) (SubL.nil) (BsOk.h (SubM.cons 5 rfl (SubM.nil)) (SubL.nil) (BsOk.h (SubM.nil) (SubL.nil) (BsOk.h (SubM.cons 3 rfl (SubM.nil)) (SubL.nil) (BsOk.h (SubM.nil) (SubL.nil) (BsOk.b rfl (BsOk.b rfl (BsOk.b rfl (BsOk.b rfl (BsOk.b rfl (BsOk.b rfl (BsOk.h (SubM.nil) (SubL.nil) (BsOk.h (SubM.cons 3 rfl (SubM.nil)) (SubL.nil) (BsOk.h (SubM.nil) (SubL.nil) (BsOk.h (SubM.nil) (SubL.nil) (BsOk.h (SubM.cons 3 rfl (SubM.nil)) (SubL.nil) (BsOk.h (SubM.nil) (SubL.nil) BsOk.z))))))))))))))))))) fun u51=>JR.loud rfl rfl rfl (Loud.buildS (e:=EI64I64p) ([((p2,p4))]) [(0,Value.agg #[Value.int .i64 (p2),Value.int .i64 (p4)])] rfl rfl rfl rfl (fill_1_2 (Value.int .i64 (p2)) (Value.int .i64 (p4))) rfl rfl rfl) rfl (fun u52=>(BsOk.b rfl (BsOk.h (SubM.cons 6 rfl (SubM.nil)) (SubL.nil) (BsOk.h (SubM.cons 6 rfl (SubM.nil)) (SubL.nil) (BsOk.h (SubM.nil) (SubL.nil) (BsOk.h (SubM.cons 4 rfl (SubM.nil)) (SubL.nil) (BsOk.h (SubM.nil) (SubL.nil) (BsOk.h (SubM.cons 3 rfl (SubM.nil)) (SubL.nil) (BsOk.h (SubM.cons 6 rfl (SubM.nil)) (SubL.nil) (BsOk.h (SubM.cons 6 rfl (SubM.nil)) (SubL.nil) (BsOk.h (SubM.nil) (SubL.nil) (BsOk.h (SubM.cons 4 rfl (SubM.nil)) (SubL.nil) (BsOk.h (SubM.nil) (SubL.nil) (BsOk.h (SubM.nil) (SubL.nil) (BsOk.h (SubM.cons 4 rfl (SubM.nil)) (SubL.nil) (BsOk.h (SubM.nil) (SubL.nil) (BsOk.h (SubM.nil) (SubL.nil) (BsOk.h (SubM.cons 4 rfl (SubM.nil)) (SubL.nil) (BsOk.h (SubM.nil) (SubL.nil) BsOk.z))))))))))))))))))) fun u52=>JR.loud rfl rfl rfl (Loud.appendRow2 (j:=p2) 7 FI64I64p rfl rfl rfl (Lent.ar (Lent.res 0 rfl) FI64I64p) rfl rfl rfl rfl hc29 hc37 rfl hc38) rfl (fun u53=>(BsOk.b rfl (BsOk.b rfl (BsOk.b rfl (BsOk.b rfl (BsOk.b rfl (BsOk.b rfl (BsOk.b rfl (BsOk.b rfl (BsOk.b rfl (BsOk.b rfl (BsOk.b rfl (BsOk.b rfl (BsOk.h (SubM.nil) (SubL.nil) (BsOk.h (SubM.cons 4 rfl (SubM.nil)) (SubL.nil) (BsOk.h (SubM.nil) (SubL.nil) (BsOk.h (SubM.nil) (SubL.nil) (BsOk.h (SubM.cons 4 rfl (SubM.nil)) (SubL.nil) (BsOk.h (SubM.nil) (SubL.nil) BsOk.z))))))))))))))))))) fun u53=>JR.know (Know.rws 7 rfl) fun hl54=> ?_
     refine JR.qt rfl (SubM.cons 6 rfl (SubM.nil)) (SubL.nil) (Y.indexA 0 rfl rfl rfl rfl rfl hc39.1 (by have q1:=hc39.2;have q2:=hl54;(try simp only[List.length_set]at q1);(try simp only[List.length_set]at q2);(try simp only[List.length_set]);omega)) (HistOk.b rfl (HistOk.b rfl (HistOk.b rfl (HistOk.b rfl HistOk.z)))) ?_
     refine JR.know (Know.oneRow2 (k:=p2) (j:=p3) 7 rfl (by omega) ⟨hc39.1,by first|exact hc39.2|simpa using hc39.2⟩) fun ho55=> ?_
     refine JR.loud0 rfl rfl rfl (Loud.storeRow 6 7 ⟨hc39.1,by first|exact hc39.2|simpa using hc39.2⟩ rfl rfl rfl rfl (by simp) ho55 rfl) (fun x56=>(BsOk.b rfl (BsOk.b rfl (BsOk.b rfl (BsOk.b rfl (BsOk.b rfl (BsOk.b rfl (BsOk.b rfl (BsOk.b rfl (BsOk.b rfl (BsOk.b rfl (BsOk.b rfl (BsOk.b rfl (BsOk.b rfl (BsOk.h (SubM.nil) (SubL.nil) (BsOk.h (SubM.cons 4 rfl (SubM.nil)) (SubL.nil) (BsOk.h (SubM.nil) (SubL.nil) (BsOk.b rfl (BsOk.b rfl (BsOk.b rfl BsOk.z)))))))))))))))))))) fun x56=> ?_
     refine JR.tailD 24 rfl rfl<|J.know (Know.rws 7 rfl) fun hl57=> ?_
     refine J.quiet (Y.indexA 6 rfl rfl rfl rfl rfl hc43.1 (by have q1:=hc43.2;have q2:=hl57;(try simp only[List.length_set]at q1);(try simp only[List.length_set]at q2);(try simp only[List.length_set]);omega)) rfl ?_
     refine J.know (Know.oneRow 7 (k:=p3) rfl ⟨hc43.1,by first|exact hc43.2|simpa using hc43.2⟩) fun ho58=> ?_
     refine J.storeRow 6 7 ⟨hc43.1,by first|exact hc43.2|simpa using hc43.2⟩ rfl rfl rfl rfl rfl (by simp) ho58 rfl ?_
     refine J.done ?_
     obtain rfl:=Option.some.inj h
     exact J.retG0 (List.set (List.set w5 (Int.toNat p2) u51) (Int.toNat p3) u53) rfl rfl .normal (.inr rfl) (SubM.cons 6 rfl (SubM.cons 6 rfl (SubM.nil))) LentAll.nil
    ·refine JR.qt rfl (SubM.nil) (SubL.nil) (Y.fieldB rfl rfl rfl rfl rfl) HistOk.z<|JR.qt rfl (SubM.cons 2 rfl (SubM.nil)) (SubL.nil) (Y.loadB 0 rfl rfl rfl rfl rfl) HistOk.z<|JR.qt rfl (SubM.nil) (SubL.nil) (Y.move rfl) HistOk.z<|JR.qt rfl (SubM.nil) (SubL.nil) (Y.fieldB rfl rfl rfl rfl rfl) HistOk.z<|JR.qt rfl (SubM.cons 2 rfl (SubM.nil)) (SubL.nil) (Y.loadB 0 rfl rfl rfl rfl rfl) HistOk.z<|JR.qt rfl (SubM.nil) (SubL.nil) (Y.move rfl) HistOk.z<|JR.qt rfl (SubM.nil) (SubL.nil) (Y.fieldB rfl rfl rfl rfl rfl) HistOk.z<|JR.qt rfl (SubM.cons 2 rfl (SubM.nil)) (SubL.nil) (Y.loadB 0 rfl rfl rfl rfl rfl) HistOk.z<|JR.qt rfl (SubM.nil) (SubL.nil) (Y.move rfl) HistOk.z<|JR.know (Know.rws 5 rfl) fun hl59=> ?_
     refine JR.qt rfl (SubM.cons 4 rfl (SubM.nil)) (SubL.nil) (Y.indexA 0 rfl rfl rfl rfl rfl hc26.1 (by have q1:=hc26.2;have q2:=hl59;(try simp only[List.length_set]at q1);(try simp only[List.length_set]at q2);(try simp only[List.length_set]);omega)) HistOk.z ?_
     refine JR.know (Know.rws 5 rfl) fun hl60=>JR.qt rfl (SubM.cons 4 rfl (SubM.nil)) (SubL.nil) (Y.loadRaw 0 rfl rfl hl60 rfl rfl hc26) HistOk.z<|JR.qt rfl (SubM.cons 1 rfl (SubM.nil)) (SubL.nil) (Y.loadBAll 0 rfl rfl rfl rfl) HistOk.z<|JR.qt rfl (SubM.nil) (SubL.nil) (Y.fieldB rfl rfl rfl rfl rfl) HistOk.z<|JR.qt rfl (SubM.cons 2 rfl (SubM.nil)) (SubL.nil) (Y.loadB 0 rfl rfl rfl rfl rfl) HistOk.z<|JR.qt rfl (SubM.nil) (SubL.nil) (Y.move rfl) HistOk.z<|JR.know (Know.rws 5 rfl) fun hl61=> ?_
     refine JR.qt rfl (SubM.cons 4 rfl (SubM.nil)) (SubL.nil) (Y.indexA 0 rfl rfl rfl rfl rfl hc29.1 (by have q1:=hc29.2;have q2:=hl61;(try simp only[List.length_set]at q1);(try simp only[List.length_set]at q2);(try simp only[List.length_set]);omega)) HistOk.z ?_
     refine JR.know (Know.rws 5 rfl) fun hl62=>JR.qt rfl (SubM.cons 4 rfl (SubM.nil)) (SubL.nil) (Y.loadRaw 0 rfl rfl hl62 rfl rfl hc29) HistOk.z<|JR.qt rfl (SubM.cons 0 rfl (SubM.nil)) (SubL.nil) (Y.loadBAll 0 rfl rfl rfl rfl) HistOk.z<|JR.loud rfl rfl rfl (Loud.buildS (e:=EI64I64p) ([((p3,p4))]) [(0,Value.agg #[Value.int .i64 (p3),Value.int .i64 (p4)])] rfl rfl rfl rfl (fill_1_2 (Value.int .i64 (p3)) (Value.int .i64 (p4))) rfl rfl rfl) rfl (fun u63=>(BsOk.h (SubM.cons 1 rfl (SubM.nil)) (SubL.nil) (BsOk.h (SubM.cons 5 rfl (SubM.nil)) (SubL.nil) (BsOk.h (SubM.cons 5 rfl (SubM.nil)) (SubL.nil) (BsOk.h (SubM.nil) (SubL.nil) (BsOk.h (SubM.cons 3 rfl (SubM.nil)) (SubL.nil) (BsOk.h (SubM.nil) (SubL.nil) (BsOk.b rfl (BsOk.h (SubM.cons 5 rfl (SubM.nil)) (SubL.nil) (BsOk.h (SubM.cons 5 rfl (SubM.nil)) (SubL.nil) (BsOk.h (SubM.nil) (SubL.nil) (BsOk.h (SubM.cons 3 rfl (SubM.nil)) (SubL.nil) (BsOk.h (SubM.nil) (SubL.nil) (BsOk.h (SubM.nil) (SubL.nil) (BsOk.h (SubM.cons 3 rfl (SubM.nil)) (SubL.nil) (BsOk.h (SubM.nil) (SubL.nil) (BsOk.h (SubM.nil) (SubL.nil) (BsOk.h (SubM.cons 3 rfl (SubM.nil)) (SubL.nil) (BsOk.h (SubM.nil) (SubL.nil) BsOk.z))))))))))))))))))) fun u63=>JR.loud rfl rfl rfl (Loud.buildS (e:=EI64I64p) ([((p2,p4))]) [(0,Value.agg #[Value.int .i64 (p2),Value.int .i64 (p4)])] rfl rfl rfl rfl (fill_1_2 (Value.int .i64 (p2)) (Value.int .i64 (p4))) rfl rfl rfl) rfl (fun u64=>(BsOk.b rfl (BsOk.h (SubM.cons 6 rfl (SubM.nil)) (SubL.nil) (BsOk.h (SubM.cons 6 rfl (SubM.nil)) (SubL.nil) (BsOk.h (SubM.nil) (SubL.nil) (BsOk.h (SubM.cons 4 rfl (SubM.nil)) (SubL.nil) (BsOk.h (SubM.nil) (SubL.nil) (BsOk.h (SubM.cons 3 rfl (SubM.nil)) (SubL.nil) (BsOk.h (SubM.cons 6 rfl (SubM.nil)) (SubL.nil) (BsOk.h (SubM.cons 6 rfl (SubM.nil)) (SubL.nil) (BsOk.h (SubM.nil) (SubL.nil) (BsOk.h (SubM.cons 4 rfl (SubM.nil)) (SubL.nil) (BsOk.h (SubM.nil) (SubL.nil) (BsOk.h (SubM.nil) (SubL.nil) (BsOk.h (SubM.cons 4 rfl (SubM.nil)) (SubL.nil) (BsOk.h (SubM.nil) (SubL.nil) (BsOk.h (SubM.nil) (SubL.nil) (BsOk.h (SubM.cons 4 rfl (SubM.nil)) (SubL.nil) (BsOk.h (SubM.nil) (SubL.nil) BsOk.z))))))))))))))))))) fun u64=>JR.loud rfl rfl rfl (Loud.appendRowL 7 FI64I64p rfl rfl rfl (Lent.ar (Lent.res 1 rfl) FI64I64p) rfl rfl rfl rfl hc26 hc34 rfl) rfl (fun u65=>(BsOk.h (SubM.cons 2 rfl (SubM.nil)) (SubL.nil) (BsOk.h (SubM.cons 6 rfl (SubM.nil)) (SubL.nil) (BsOk.h (SubM.cons 6 rfl (SubM.nil)) (SubL.nil) (BsOk.h (SubM.nil) (SubL.nil) (BsOk.h (SubM.cons 4 rfl (SubM.nil)) (SubL.nil) (BsOk.h (SubM.nil) (SubL.nil) (BsOk.b rfl (BsOk.b rfl (BsOk.b rfl (BsOk.b rfl (BsOk.b rfl (BsOk.b rfl (BsOk.h (SubM.nil) (SubL.nil) (BsOk.h (SubM.cons 4 rfl (SubM.nil)) (SubL.nil) (BsOk.h (SubM.nil) (SubL.nil) (BsOk.h (SubM.nil) (SubL.nil) (BsOk.h (SubM.cons 4 rfl (SubM.nil)) (SubL.nil) (BsOk.h (SubM.nil) (SubL.nil) BsOk.z))))))))))))))))))) fun u65=>JR.loud rfl rfl rfl (Loud.appendRow2 (j:=p2) 7 FI64I64p rfl rfl rfl (Lent.ar (Lent.res 0 rfl) FI64I64p) rfl rfl rfl rfl hc29 hc37 rfl hc38) rfl (fun u66=>(BsOk.b rfl (BsOk.b rfl (BsOk.b rfl (BsOk.b rfl (BsOk.b rfl (BsOk.b rfl (BsOk.b rfl (BsOk.b rfl (BsOk.b rfl (BsOk.b rfl (BsOk.b rfl (BsOk.b rfl (BsOk.h (SubM.nil) (SubL.nil) (BsOk.h (SubM.cons 4 rfl (SubM.nil)) (SubL.nil) (BsOk.h (SubM.nil) (SubL.nil) (BsOk.h (SubM.nil) (SubL.nil) (BsOk.h (SubM.cons 4 rfl (SubM.nil)) (SubL.nil) (BsOk.h (SubM.nil) (SubL.nil) BsOk.z))))))))))))))))))) fun u66=>JR.know (Know.rws 7 rfl) fun hl67=> ?_
     refine JR.qt rfl (SubM.cons 6 rfl (SubM.nil)) (SubL.nil) (Y.indexA 0 rfl rfl rfl rfl rfl hc39.1 (by have q1:=hc39.2;have q2:=hl67;(try simp only[List.length_set]at q1);(try simp only[List.length_set]at q2);(try simp only[List.length_set]);omega)) (HistOk.b rfl (HistOk.b rfl (HistOk.b rfl (HistOk.b rfl HistOk.z)))) ?_
     refine JR.know (Know.oneRow2 (k:=p2) (j:=p3) 7 rfl (by omega) ⟨hc39.1,by first|exact hc39.2|simpa using hc39.2⟩) fun ho68=> ?_
     refine JR.loud0 rfl rfl rfl (Loud.storeRow 6 7 ⟨hc39.1,by first|exact hc39.2|simpa using hc39.2⟩ rfl rfl rfl rfl (by simp) ho68 rfl) (fun x69=>(BsOk.b rfl (BsOk.b rfl (BsOk.b rfl (BsOk.b rfl (BsOk.b rfl (BsOk.b rfl (BsOk.b rfl (BsOk.b rfl (BsOk.b rfl (BsOk.b rfl (BsOk.b rfl (BsOk.b rfl (BsOk.b rfl (BsOk.h (SubM.nil) (SubL.nil) (BsOk.h (SubM.cons 4 rfl (SubM.nil)) (SubL.nil) (BsOk.h (SubM.nil) (SubL.nil) (BsOk.b rfl (BsOk.b rfl (BsOk.b rfl BsOk.z)))))))))))))))))))) fun x69=> ?_
     refine JR.tailD 24 rfl rfl<|J.know (Know.rws 7 rfl) fun hl70=> ?_
     refine J.quiet (Y.indexA 6 rfl rfl rfl rfl rfl hc43.1 (by have q1:=hc43.2;have q2:=hl70;(try simp only[List.length_set]at q1);(try simp only[List.length_set]at q2);(try simp only[List.length_set]);omega)) rfl ?_
     refine J.know (Know.oneRow 7 (k:=p3) rfl ⟨hc43.1,by first|exact hc43.2|simpa using hc43.2⟩) fun ho71=> ?_
     refine J.storeRow 6 7 ⟨hc43.1,by first|exact hc43.2|simpa using hc43.2⟩ rfl rfl rfl rfl rfl (by simp) ho71 rfl ?_
     refine J.done ?_
     obtain rfl:=Option.some.inj h
     exact J.retG0 (List.set (List.set w5 (Int.toNat p2) u65) (Int.toNat p3) u66) rfl rfl .normal (.inr rfl) (SubM.cons 6 rfl (SubM.cons 6 rfl (SubM.nil))) LentAll.nil
    ·refine JR.qt rfl (SubM.nil) (SubL.nil) (Y.fieldB rfl rfl rfl rfl rfl) HistOk.z<|JR.qt rfl (SubM.cons 2 rfl (SubM.nil)) (SubL.nil) (Y.loadB 0 rfl rfl rfl rfl rfl) HistOk.z<|JR.qt rfl (SubM.nil) (SubL.nil) (Y.move rfl) HistOk.z<|JR.qt rfl (SubM.nil) (SubL.nil) (Y.fieldB rfl rfl rfl rfl rfl) HistOk.z<|JR.qt rfl (SubM.cons 2 rfl (SubM.nil)) (SubL.nil) (Y.loadB 0 rfl rfl rfl rfl rfl) HistOk.z<|JR.qt rfl (SubM.nil) (SubL.nil) (Y.move rfl) HistOk.z<|JR.qt rfl (SubM.nil) (SubL.nil) (Y.fieldB rfl rfl rfl rfl rfl) HistOk.z<|JR.qt rfl (SubM.cons 2 rfl (SubM.nil)) (SubL.nil) (Y.loadB 0 rfl rfl rfl rfl rfl) HistOk.z<|JR.qt rfl (SubM.nil) (SubL.nil) (Y.move rfl) HistOk.z<|JR.know (Know.rws 5 rfl) fun hl72=> ?_
     refine JR.qt rfl (SubM.cons 4 rfl (SubM.nil)) (SubL.nil) (Y.indexA 0 rfl rfl rfl rfl rfl hc26.1 (by have q1:=hc26.2;have q2:=hl72;(try simp only[List.length_set]at q1);(try simp only[List.length_set]at q2);(try simp only[List.length_set]);omega)) HistOk.z ?_
     refine JR.know (Know.rws 5 rfl) fun hl73=>JR.qt rfl (SubM.cons 4 rfl (SubM.nil)) (SubL.nil) (Y.loadRaw 0 rfl rfl hl73 rfl rfl hc26) HistOk.z<|JR.qt rfl (SubM.cons 1 rfl (SubM.nil)) (SubL.nil) (Y.loadBAll 0 rfl rfl rfl rfl) HistOk.z<|JR.qt rfl (SubM.nil) (SubL.nil) (Y.fieldB rfl rfl rfl rfl rfl) HistOk.z<|JR.qt rfl (SubM.cons 2 rfl (SubM.nil)) (SubL.nil) (Y.loadB 0 rfl rfl rfl rfl rfl) HistOk.z<|JR.qt rfl (SubM.nil) (SubL.nil) (Y.move rfl) HistOk.z<|JR.know (Know.rws 5 rfl) fun hl74=> ?_
     refine JR.qt rfl (SubM.cons 4 rfl (SubM.nil)) (SubL.nil) (Y.indexA 0 rfl rfl rfl rfl rfl hc29.1 (by have q1:=hc29.2;have q2:=hl74;(try simp only[List.length_set]at q1);(try simp only[List.length_set]at q2);(try simp only[List.length_set]);omega)) HistOk.z ?_
     refine JR.know (Know.rws 5 rfl) fun hl75=>JR.qt rfl (SubM.cons 4 rfl (SubM.nil)) (SubL.nil) (Y.loadRaw 0 rfl rfl hl75 rfl rfl hc29) HistOk.z<|JR.qt rfl (SubM.cons 0 rfl (SubM.nil)) (SubL.nil) (Y.loadBAll 0 rfl rfl rfl rfl) HistOk.z<|JR.loud rfl rfl rfl (Loud.buildS (e:=EI64I64p) ([((p2,p4))]) [(0,Value.agg #[Value.int .i64 (p2),Value.int .i64 (p4)])] rfl rfl rfl rfl (fill_1_2 (Value.int .i64 (p2)) (Value.int .i64 (p4))) rfl rfl rfl) rfl (fun u76=>(BsOk.b rfl (BsOk.h (SubM.cons 5 rfl (SubM.nil)) (SubL.nil) (BsOk.h (SubM.cons 5 rfl (SubM.nil)) (SubL.nil) (BsOk.h (SubM.nil) (SubL.nil) (BsOk.h (SubM.cons 3 rfl (SubM.nil)) (SubL.nil) (BsOk.h (SubM.nil) (SubL.nil) (BsOk.h (SubM.cons 2 rfl (SubM.nil)) (SubL.nil) (BsOk.h (SubM.cons 5 rfl (SubM.nil)) (SubL.nil) (BsOk.h (SubM.cons 5 rfl (SubM.nil)) (SubL.nil) (BsOk.h (SubM.nil) (SubL.nil) (BsOk.h (SubM.cons 3 rfl (SubM.nil)) (SubL.nil) (BsOk.h (SubM.nil) (SubL.nil) (BsOk.h (SubM.nil) (SubL.nil) (BsOk.h (SubM.cons 3 rfl (SubM.nil)) (SubL.nil) (BsOk.h (SubM.nil) (SubL.nil) (BsOk.h (SubM.nil) (SubL.nil) (BsOk.h (SubM.cons 3 rfl (SubM.nil)) (SubL.nil) (BsOk.h (SubM.nil) (SubL.nil) BsOk.z))))))))))))))))))) fun u76=>JR.loud rfl rfl rfl (Loud.buildS (e:=EI64I64p) ([((p3,p4))]) [(0,Value.agg #[Value.int .i64 (p3),Value.int .i64 (p4)])] rfl rfl rfl rfl (fill_1_2 (Value.int .i64 (p3)) (Value.int .i64 (p4))) rfl rfl rfl) rfl (fun u77=>(BsOk.h (SubM.cons 2 rfl (SubM.nil)) (SubL.nil) (BsOk.h (SubM.cons 6 rfl (SubM.nil)) (SubL.nil) (BsOk.h (SubM.cons 6 rfl (SubM.nil)) (SubL.nil) (BsOk.h (SubM.nil) (SubL.nil) (BsOk.h (SubM.cons 4 rfl (SubM.nil)) (SubL.nil) (BsOk.h (SubM.nil) (SubL.nil) (BsOk.b rfl (BsOk.h (SubM.cons 6 rfl (SubM.nil)) (SubL.nil) (BsOk.h (SubM.cons 6 rfl (SubM.nil)) (SubL.nil) (BsOk.h (SubM.nil) (SubL.nil) (BsOk.h (SubM.cons 4 rfl (SubM.nil)) (SubL.nil) (BsOk.h (SubM.nil) (SubL.nil) (BsOk.h (SubM.nil) (SubL.nil) (BsOk.h (SubM.cons 4 rfl (SubM.nil)) (SubL.nil) (BsOk.h (SubM.nil) (SubL.nil) (BsOk.h (SubM.nil) (SubL.nil) (BsOk.h (SubM.cons 4 rfl (SubM.nil)) (SubL.nil) (BsOk.h (SubM.nil) (SubL.nil) BsOk.z))))))))))))))))))) fun u77=>JR.loud rfl rfl rfl (Loud.appendRowL 7 FI64I64p rfl rfl rfl (Lent.ar (Lent.res 0 rfl) FI64I64p) rfl rfl rfl rfl hc26 hc34 rfl) rfl (fun u78=>(BsOk.h (SubM.cons 2 rfl (SubM.nil)) (SubL.nil) (BsOk.h (SubM.cons 6 rfl (SubM.nil)) (SubL.nil) (BsOk.h (SubM.cons 6 rfl (SubM.nil)) (SubL.nil) (BsOk.h (SubM.nil) (SubL.nil) (BsOk.h (SubM.cons 4 rfl (SubM.nil)) (SubL.nil) (BsOk.h (SubM.nil) (SubL.nil) (BsOk.b rfl (BsOk.b rfl (BsOk.b rfl (BsOk.b rfl (BsOk.b rfl (BsOk.b rfl (BsOk.h (SubM.nil) (SubL.nil) (BsOk.h (SubM.cons 4 rfl (SubM.nil)) (SubL.nil) (BsOk.h (SubM.nil) (SubL.nil) (BsOk.h (SubM.nil) (SubL.nil) (BsOk.h (SubM.cons 4 rfl (SubM.nil)) (SubL.nil) (BsOk.h (SubM.nil) (SubL.nil) BsOk.z))))))))))))))))))) fun u78=>JR.loud rfl rfl rfl (Loud.appendRow2 (j:=p2) 7 FI64I64p rfl rfl rfl (Lent.ar (Lent.res 1 rfl) FI64I64p) rfl rfl rfl rfl hc29 hc37 rfl hc38) rfl (fun u79=>(BsOk.b rfl (BsOk.b rfl (BsOk.b rfl (BsOk.b rfl (BsOk.b rfl (BsOk.b rfl (BsOk.b rfl (BsOk.b rfl (BsOk.b rfl (BsOk.b rfl (BsOk.b rfl (BsOk.b rfl (BsOk.h (SubM.nil) (SubL.nil) (BsOk.h (SubM.cons 4 rfl (SubM.nil)) (SubL.nil) (BsOk.h (SubM.nil) (SubL.nil) (BsOk.h (SubM.nil) (SubL.nil) (BsOk.h (SubM.cons 4 rfl (SubM.nil)) (SubL.nil) (BsOk.h (SubM.nil) (SubL.nil) BsOk.z))))))))))))))))))) fun u79=>JR.know (Know.rws 7 rfl) fun hl80=> ?_
     refine JR.qt rfl (SubM.cons 6 rfl (SubM.nil)) (SubL.nil) (Y.indexA 0 rfl rfl rfl rfl rfl hc39.1 (by have q1:=hc39.2;have q2:=hl80;(try simp only[List.length_set]at q1);(try simp only[List.length_set]at q2);(try simp only[List.length_set]);omega)) (HistOk.b rfl (HistOk.b rfl (HistOk.b rfl (HistOk.b rfl HistOk.z)))) ?_
     refine JR.know (Know.oneRow2 (k:=p2) (j:=p3) 7 rfl (by omega) ⟨hc39.1,by first|exact hc39.2|simpa using hc39.2⟩) fun ho81=> ?_
     refine JR.loud0 rfl rfl rfl (Loud.storeRow 6 7 ⟨hc39.1,by first|exact hc39.2|simpa using hc39.2⟩ rfl rfl rfl rfl (by simp) ho81 rfl) (fun x82=>(BsOk.b rfl (BsOk.b rfl (BsOk.b rfl (BsOk.b rfl (BsOk.b rfl (BsOk.b rfl (BsOk.b rfl (BsOk.b rfl (BsOk.b rfl (BsOk.b rfl (BsOk.b rfl (BsOk.b rfl (BsOk.b rfl (BsOk.h (SubM.nil) (SubL.nil) (BsOk.h (SubM.cons 4 rfl (SubM.nil)) (SubL.nil) (BsOk.h (SubM.nil) (SubL.nil) (BsOk.b rfl (BsOk.b rfl (BsOk.b rfl BsOk.z)))))))))))))))))))) fun x82=> ?_
     refine JR.tailD 24 rfl rfl<|J.know (Know.rws 7 rfl) fun hl83=> ?_
     refine J.quiet (Y.indexA 6 rfl rfl rfl rfl rfl hc43.1 (by have q1:=hc43.2;have q2:=hl83;(try simp only[List.length_set]at q1);(try simp only[List.length_set]at q2);(try simp only[List.length_set]);omega)) rfl ?_
     refine J.know (Know.oneRow 7 (k:=p3) rfl ⟨hc43.1,by first|exact hc43.2|simpa using hc43.2⟩) fun ho84=> ?_
     refine J.storeRow 6 7 ⟨hc43.1,by first|exact hc43.2|simpa using hc43.2⟩ rfl rfl rfl rfl rfl (by simp) ho84 rfl ?_
     refine J.done ?_
     obtain rfl:=Option.some.inj h
     exact J.retG0 (List.set (List.set w5 (Int.toNat p2) u78) (Int.toNat p3) u79) rfl rfl .normal (.inr rfl) (SubM.cons 6 rfl (SubM.cons 6 rfl (SubM.nil))) LentAll.nil
end Go.Proofs.YtfimaabbclepbaaGreat
end
section
namespace Go.Proofs.YtfimaabbclepbaaGreat
open Go.Sx
def _world_Net__Tree_k1 (r3:(List (Int)×(List (List (Int×Int))))) (a11:(List (List (Int×Int)))):Option ((List (Int)×(List (List (Int×Int))))):=
 some ((r3.1,a11))
def _world_Net__Tree_s1 (fuel:Nat) (p0:Int×List (Int)×List (Int)×List (Int)×Bool×Bool) (r3:(List (Int)×(List (List (Int×Int))))) (a19:Int×(List (List (Int×Int)))) (ag18:(Int×(List (List (Int×Int))))->Option ((List (Int)×(List (List (Int×Int)))))):Option ((List (Int)×(List (List (Int×Int))))):=
 if a19.1<(List.length a19.2:Int)then(Option.bind (m_world_at fuel p0.2.1 (wI .i64 (a19.1 - (1:Int)))) fun r23=>(Option.bind (m_world_Within fuel r23 a19.1) fun r26=>(Option.bind (m_world_at fuel p0.2.2.1 (wI .i64 (a19.1 - (1:Int)))) fun r29=>(Option.bind (m_world_Within fuel r29 (15:Int)) fun r32=>(Option.bind (m__world_Net__link fuel ((p0.1,p0.2.1,p0.2.2.1,p0.2.2.2.1,p0.2.2.2.2.1,p0.2.2.2.2.2)) ((r3.1,a19.2)) r26 a19.1 (wI .i64 ((1:Int)+r32))) fun r35=>(ag18 ((wI .i64 (a19.1+(1:Int))),r35)))))))else(_world_Net__Tree_k1 r3 (a19.2))
def m__world_Net__Tree (fuel:Nat) (p0:Int×List (Int)×List (Int)×List (Int)×Bool×Bool) (p1:Int):Option ((List (Int)×(List (List (Int×Int))))):=
 Option.bind (m__world_Net__nodes fuel ((p0.1,p0.2.1,p0.2.2.1,p0.2.2.2.1,p0.2.2.2.2.1,p0.2.2.2.2.2)) p1) fun r3=>(iter (_world_Net__Tree_s1 fuel p0 r3) fuel ((1:Int),r3.2))
theorem body18:HasBody Tryz.prog 18:=Tryz.call18
theorem t__world_Net__Tree (fuel:Nat) {p0:Int×List (Int)×List (Int)×List (Int)×Bool×Bool} {p1:Int} (v0:Value)  (v1:Value)  (v2:Value) (r:(List (Int)×(List (List (Int×Int))))) (h:m__world_Net__Tree fuel p0 p1=some r):
  Meets Tryz.prog 18 #[Value.agg #[Value.int .i64 (p0.1),v0,v1,v2,Value.bool (p0.2.2.2.2.1),Value.bool (p0.2.2.2.2.2)],Value.int .i64 (p1)] [Sl RI64 v0 p0.2.1,Sl RI64 v1 p0.2.2.1,Sl RI64 v2 p0.2.2.2.1] (fun x:Value×Value×List Value=>Value.agg #[x.1,x.2.1]) (fun x l=>Ar EI64 x.1 r.1::Ar Enc.raw x.2.1 x.2.2::Rws EI64I64p x.2.2 r.2::l) (fun _ l=>l):=by
 refine Meets.of (vs:=[Value.agg #[Value.int .i64 (p0.1),v0,v1,v2,Value.bool (p0.2.2.2.2.1),Value.bool (p0.2.2.2.2.2)],Value.int .i64 (p1)]) Tryz.func18 rfl Tryz.ntmps18 rfl fun c=> ?_
 unfold m__world_Net__Tree at h
 refine J.seq<|J.region<|J.loud (Loud.box (cs:=[Value.int .i64 (p0.1),v0,v1,v2,Value.bool (p0.2.2.2.2.1),Value.bool (p0.2.2.2.2.2)]) rfl rfl) rfl fun b1=>J.loud (Loud.alloc (cs:=[Value.slice none 0 0,Value.slice none 0 0]) rfl rfl) rfl fun b2=>J.done<|J.thenN<|J.seq<|J.region<|J.quiet (Y.loadBAll 1 rfl rfl rfl rfl) rfl<|J.quiet (Y.move rfl) rfl ?_
 have h:=bnd h;obtain⟨r3,hr4,h⟩:=h
 refine J.loud (Loud.callL body37 (t__world_Net__nodes fuel v0 v1 v2 r3 hr4) rfl (LentAll.cons (Lent.fact 0 rfl) (LentAll.cons (Lent.fact 1 rfl) (LentAll.cons (Lent.fact 2 rfl) .nil))) (fun _ _=>rfl)) rfl fun x5=>J.loud (Loud.alloc (cs:=[Value.slice none 0 0,Value.slice none 0 0]) rfl rfl) rfl fun b6=>J.know (Know.one ((Lent.ar (Lent.res 1 rfl) FI64))) fun ho7=>J.know (Know.one (Lent.sl (Lent.rows (i:=2) (j:=3) rfl rfl FI64I64p))) fun ho8=>J.storeAll 0 (vs:=[x5.1,x5.2.1]) rfl rfl (all1 ho7 (all1 ho8 rfl)) rfl rfl rfl<|J.done<|J.thenN<|J.seq<|J.midI (A:=(List (List (Int×Int)))) (B:=List Value) (fun a11=>_world_Net__Tree_k1 r3 a11=some r) (fun a11 b12=>[(4,Value.pointer (some ⟨b2,0,none⟩)),(5,Value.pointer (some ⟨b6,0,none⟩))]) (fun a11 b12=>[Blk b6 [x5.1,x5.2.1] 25,Ar EI64 x5.1 r3.1,Ar Enc.raw x5.2.1 b12,Rws EI64I64p b12 a11,Blk b2 [Value.slice none 0 0,Value.slice none 0 0] 25]) (fun a11 b12=>[Sl RI64 v0 p0.2.1,Sl RI64 v1 p0.2.2.1,Sl RI64 v2 p0.2.2.2.1]) ?_ ?_
 ·refine J.seq<|J.region<|J.quiet (Y.assign rfl) rfl<|J.done<|J.thenN<|J.block<|J.loopI (A:=Int×(List (List (Int×Int)))) (B:=List Value) (_world_Net__Tree_s1 fuel p0 r3) (fun a19 b20=>[(2,Value.pointer (some ⟨b1,0,none⟩)),(4,Value.pointer (some ⟨b2,0,none⟩)),(5,Value.pointer (some ⟨b6,0,none⟩)),(6,Value.int .i64 (a19.1))]) (fun a19 b20=>[Blk b6 [x5.1,x5.2.1] 25,Ar EI64 x5.1 r3.1,Ar Enc.raw x5.2.1 b20,Rws EI64I64p b20 a19.2,Blk b2 [Value.slice none 0 0,Value.slice none 0 0] 25,Blk b1 [Value.int .i64 (p0.1),v0,v1,v2,Value.bool (p0.2.2.2.2.1),Value.bool (p0.2.2.2.2.2)] 33]) (fun a19 b20=>[Sl RI64 v0 p0.2.1,Sl RI64 v1 p0.2.2.1,Sl RI64 v2 p0.2.2.2.1]) ((1:Int),r3.2) (x5.2.2) h SF (SubM.refl _) (LentAll.refl _ _) ?_
  clear h
  intro k21 a19 b20 h
  unfold _world_Net__Tree_s1 at h
  refine J.seq<|J.seq<|J.region<|J.quiet (Y.move rfl) rfl<|J.quiet (Y.fieldB rfl rfl rfl rfl rfl) rfl<|J.quiet (Y.loadB 0 rfl rfl rfl rfl rfl) rfl<|J.quiet (Y.lenN rfl (Lent.rows (i:=2) (j:=3) rfl rfl FI64I64p) rfl) rfl<|J.quiet (Y.lss rfl rfl) rfl<|J.done<|J.thenN ?_
  refine J.condD (by exact rfl) (fun hp22=> ?_) (fun hp22=> ?_)
  ·have h:=ifP hp22 h
   refine J.skip<|J.thenN<|J.seq<|J.block ?_
   refine JR.start [0,0,0,4,0,16,60,0,252,0,0,1024,0,4096,15868,32252,65020,131071] 17 mixedOrders (by decide +kernel) ?_
   refine JR.open (by exact rfl) ?_
   refine JR.qt rfl (SubM.cons 5 rfl (SubM.nil)) (SubL.nil) (Y.loadBAll 0 rfl rfl rfl rfl) HistOk.z<|JR.qt rfl (SubM.cons 0 rfl (SubM.nil)) (SubL.nil) (Y.loadBAll 0 rfl rfl rfl rfl) HistOk.z<|JR.qt rfl (SubM.nil) (SubL.nil) (Y.fieldB rfl rfl rfl rfl rfl) HistOk.z<|JR.qt rfl (SubM.cons 5 rfl (SubM.nil)) (SubL.nil) (Y.loadB 0 rfl rfl rfl rfl rfl) HistOk.z<|JR.qt rfl (SubM.nil) (SubL.nil) (Y.move rfl) HistOk.z<|JR.qt rfl (SubM.nil) (SubL.nil) (Y.subW rfl rfl) HistOk.z ?_
   have h:=bnd h;obtain⟨r23,hr24,h⟩:=h
   refine JR.loud rfl rfl rfl (Loud.callL body39 (t_world_at fuel v0 r23 hr24) rfl (LentAll.cons (Lent.fact 0 rfl) .nil) (fun _ _=>rfl)) rfl (fun x25=>(BsOk.b rfl (BsOk.b rfl (BsOk.b rfl (BsOk.b rfl (BsOk.h (SubM.cons 0 rfl (SubM.nil)) (SubL.nil) (BsOk.h (SubM.cons 5 rfl (SubM.nil)) (SubL.nil) BsOk.z))))))) fun x25=>JR.qt rfl (SubM.nil) (SubL.nil) (Y.move rfl) (HistOk.h (SubM.nil) (SubL.nil) HistOk.z) ?_
   have h:=bnd h;obtain⟨r26,hr27,h⟩:=h
   refine JR.loud rfl rfl rfl (Loud.callL body38 (t_world_Within fuel  r26 hr27) rfl .nil (fun _ _=>rfl)) rfl (fun x28=>(BsOk.b rfl (BsOk.b rfl (BsOk.b rfl (BsOk.b rfl (BsOk.b rfl (BsOk.h (SubM.cons 0 rfl (SubM.nil)) (SubL.nil) (BsOk.h (SubM.cons 5 rfl (SubM.nil)) (SubL.nil) BsOk.z)))))))) fun x28=>JR.qt rfl (SubM.nil) (SubL.nil) (Y.move rfl) (HistOk.h (SubM.nil) (SubL.nil) (HistOk.h (SubM.nil) (SubL.nil) HistOk.z))<|JR.qt rfl (SubM.nil) (SubL.nil) (Y.fieldB rfl rfl rfl rfl rfl) (HistOk.h (SubM.nil) (SubL.nil) (HistOk.h (SubM.nil) (SubL.nil) HistOk.z))<|JR.qt rfl (SubM.cons 5 rfl (SubM.nil)) (SubL.nil) (Y.loadB 0 rfl rfl rfl rfl rfl) (HistOk.h (SubM.cons 5 rfl (SubM.nil)) (SubL.nil) (HistOk.h (SubM.cons 5 rfl (SubM.nil)) (SubL.nil) HistOk.z))<|JR.qt rfl (SubM.nil) (SubL.nil) (Y.move rfl) (HistOk.h (SubM.nil) (SubL.nil) (HistOk.h (SubM.nil) (SubL.nil) HistOk.z))<|JR.qt rfl (SubM.nil) (SubL.nil) (Y.subW rfl rfl) (HistOk.h (SubM.nil) (SubL.nil) (HistOk.h (SubM.nil) (SubL.nil) HistOk.z)) ?_
   have h:=bnd h;obtain⟨r29,hr30,h⟩:=h
   refine JR.loud rfl rfl rfl (Loud.callL body39 (t_world_at fuel v1 r29 hr30) rfl (LentAll.cons (Lent.fact 1 rfl) .nil) (fun _ _=>rfl)) rfl (fun x31=>(BsOk.b rfl (BsOk.b rfl (BsOk.b rfl (BsOk.b rfl (BsOk.h (SubM.nil) (SubL.nil) (BsOk.b rfl (BsOk.b rfl (BsOk.b rfl (BsOk.b rfl (BsOk.b rfl (BsOk.h (SubM.cons 0 rfl (SubM.nil)) (SubL.nil) (BsOk.h (SubM.cons 5 rfl (SubM.nil)) (SubL.nil) BsOk.z))))))))))))) fun x31=> ?_
   have h:=bnd h;obtain⟨r32,hr33,h⟩:=h
   refine JR.loud rfl rfl rfl (Loud.callL body38 (t_world_Within fuel  r32 hr33) rfl .nil (fun _ _=>rfl)) rfl (fun x34=>(BsOk.b rfl (BsOk.b rfl (BsOk.b rfl (BsOk.b rfl (BsOk.h (SubM.nil) (SubL.nil) (BsOk.b rfl (BsOk.b rfl (BsOk.b rfl (BsOk.b rfl (BsOk.b rfl (BsOk.h (SubM.cons 0 rfl (SubM.nil)) (SubL.nil) (BsOk.h (SubM.cons 5 rfl (SubM.nil)) (SubL.nil) BsOk.z))))))))))))) fun x34=>JR.qt rfl (SubM.nil) (SubL.nil) (Y.addW rfl rfl) (HistOk.b rfl (HistOk.b rfl (HistOk.b rfl (HistOk.b rfl HistOk.z))))<|JR.tailD 17 rfl rfl ?_
   have h:=bnd h;obtain⟨r35,hr36,h⟩:=h
   refine J.loud (Loud.callM (Min:=[Ar Enc.raw x5.2.1 b20,Rws EI64I64p b20 a19.2]) (Mr:=[Blk b6 [x5.1,x5.2.1] 25,Ar EI64 x5.1 r3.1,Blk b2 [Value.slice none 0 0,Value.slice none 0 0] 25,Blk b1 [Value.int .i64 (p0.1),v0,v1,v2,Value.bool (p0.2.2.2.2.1),Value.bool (p0.2.2.2.2.2)] 33]) body43 (t__world_Net__link fuel v0 v1 v2 x5.1 x5.2.1 b20 r35 hr36) rfl (SubM.cons 2 rfl (SubM.cons 2 rfl (SubM.cons 0 rfl (SubM.cons 0 rfl (SubM.cons 0 rfl (SubM.cons 0 rfl (SubM.nil))))))) (LentAll.cons (Lent.fact 0 rfl) (LentAll.cons (Lent.fact 1 rfl) (LentAll.cons (Lent.fact 2 rfl) (LentAll.cons (Lent.ar (Lent.res 1 rfl) FI64) .nil)))) (fun _ _=>rfl)) rfl fun x37=>J.done<|J.inN<|J.thenN<|J.region<|J.quiet (Y.move rfl) rfl<|J.quiet (Y.addW rfl rfl) rfl<|J.quiet (Y.assign rfl) rfl<|J.done<|J.thenN ?_
   exact J.againI ((wI .i64 (a19.1+(1:Int))),r35) (x37) h SF (SubM.cons 2 rfl (SubM.cons 2 rfl (SubM.cons 0 rfl (SubM.cons 0 rfl (SubM.cons 0 rfl (SubM.cons 0 rfl (SubM.nil))))))) (LentAll.refl _ _)
  ·have h:=ifN hp22 h
   refine J.exit<|J.thenX<|J.thenX<|J.inX<|J.thenN ?_
   exact J.meetI (a19.2) (b20) h SF (SubM.cons 0 rfl (SubM.cons 0 rfl (SubM.cons 0 rfl (SubM.cons 0 rfl (SubM.cons 0 rfl (SubM.nil)))))) (LentAll.refl _ _)
 ·clear h
  intro a11 b12 h
  unfold _world_Net__Tree_k1 at h
  refine J.seq<|J.region<|J.quiet (Y.loadBAll 0 rfl rfl rfl rfl) rfl<|J.know (Know.one ((Lent.ar (Lent.res 1 rfl) FI64))) fun ho13=>J.know (Know.one (Lent.sl (Lent.rows (i:=2) (j:=3) rfl rfl FI64I64p))) fun ho14=>J.storeAll 4 (vs:=[x5.1,x5.2.1]) rfl rfl (all1 ho13 (all1 ho14 rfl)) rfl rfl rfl<|J.done<|J.thenN<|J.ret ?_
  obtain rfl:=Option.some.inj h
  exact J.retG1 (x5.1,x5.2.1,b12) rfl rfl (RV.cell 4 rfl rfl rfl rfl) (SubM.cons 1 rfl (SubM.cons 1 rfl (SubM.cons 1 rfl (SubM.nil)))) LentAll.nil
end Go.Proofs.YtfimaabbclepbaaGreat
end
section
set_option maxRecDepth 100000
namespace Go.Gx
open Go Go.Sx Go.Proofs Go.Proofs.YtfimaabbclepbaaGreat
noncomputable section
def hk22 (us:List GV) (H:GH):OR:=a1 us fun x0=>ob (dGraph H x0) fun p0=>ob (m_graph_Valid 1000 p0) fun r=>oBool r H
def hk18 (us:List GV) (H:GH):OR:=a2 us fun x0 x1=>ob (dNet H x0) fun p0=>ob (dSc .i64 x1) fun p1=>ob (m__world_Net__Tree 1000 p0 p1) fun r=>oGraph r H
def hk6 (us:List GV) (H:GH):OR:=a3 us fun x0 x1 x2=>ob (dGraph H x0) fun p0=>ob (dConf H x1) fun p1=>ob (dSc .u32 x2) fun p2=>ob (m_crash_Coloured 1000 p0 p1 p2) fun r=>oBool r H
def hk11 (us:List GV) (H:GH):OR:=a3 us fun x0 x1 x2=>ob (dGraph H x0) fun p0=>ob (dConf H x1) fun p1=>ob (dSc .u32 x2) fun p2=>ob (m_crash_Distances 1000 p0 p1 p2) fun r=>oInts r H
def gext (f:Nat) (us:List GV) (H:GH):Option (GV×GH):=bif Nat.beq f 22 then hk22 us H else bif Nat.beq f 18 then hk18 us H else bif Nat.beq f 6 then hk6 us H else bif Nat.beq f 11 then hk11 us H else none
def gp:GP:=⟨tyTab,60,gext,gexn 153⟩
section
variable {w0:Base} {w:World} {ρ:Rho} {H H':GH} {g:GV} {us:List GV} {vs:List Value}
theorem hk22_ok (h:hk22 us H=some (g,H')) (R:Rel w0 ρ H w) (hr:RlL ρ us vs):CallSem Tryz.prog w0 ρ 22 vs w g H':=by
 obtain⟨x0,rfl,h⟩:=a1_some h
 obtain⟨p0,hp0,h⟩:=ob_some.1 h
 obtain⟨r,hm,h⟩:=ob_some.1 h
 obtain⟨V0,rfl,hv0⟩:=hr.one
 obtain⟨w0a,w0b,z0,rfl,f0a,f0b⟩:=dGraph_ok R hv0 hp0
 obtain⟨rfl,rfl⟩:=oBool_some h
 exact hook_plain body22 (t_graph_Valid 1000 (p0:=p0) w0a w0b z0 r hm) R (List.forall_mem_cons.2 ⟨f0a,List.forall_mem_cons.2 ⟨f0b,fun f hf=>absurd hf List.not_mem_nil⟩⟩) fun ρ=> .bool _
theorem hk18_ok (h:hk18 us H=some (g,H')) (R:Rel w0 ρ H w) (hr:RlL ρ us vs):CallSem Tryz.prog w0 ρ 18 vs w g H':=by
 obtain⟨x0,x1,rfl,h⟩:=a2_some h
 obtain⟨p0,hp0,h⟩:=ob_some.1 h
 obtain⟨p1,hp1,h⟩:=ob_some.1 h
 obtain⟨r,hm,h⟩:=ob_some.1 h
 obtain⟨V0,vs,rfl,hv0,hr⟩:=hr.of_cons
 obtain⟨V1,rfl,hv1⟩:=hr.one
 obtain⟨w0a,w0b,w0c,rfl,f0a,f0b,f0c⟩:=dNet_ok R hv0 hp0
 obtain rfl:=dSc_ok hv1 hp1
 obtain⟨h1,h2,h3,rfl,rfl⟩:=oGraph_some h
 exact hook_graph gI_ok gP_ok h1 h2 h3 body18 (t__world_Net__Tree 1000 (p0:=p0) (p1:=p1) w0a w0b w0c r hm) R (List.forall_mem_cons.2 ⟨f0a,List.forall_mem_cons.2 ⟨f0b,List.forall_mem_cons.2 ⟨f0c,fun f hf=>absurd hf List.not_mem_nil⟩⟩⟩)
theorem hk6_ok (h:hk6 us H=some (g,H')) (R:Rel w0 ρ H w) (hr:RlL ρ us vs):CallSem Tryz.prog w0 ρ 6 vs w g H':=by
 obtain⟨x0,x1,x2,rfl,h⟩:=a3_some h
 obtain⟨p0,hp0,h⟩:=ob_some.1 h
 obtain⟨p1,hp1,h⟩:=ob_some.1 h
 obtain⟨p2,hp2,h⟩:=ob_some.1 h
 obtain⟨r,hm,h⟩:=ob_some.1 h
 obtain⟨V0,vs,rfl,hv0,hr⟩:=hr.of_cons
 obtain⟨V1,vs,rfl,hv1,hr⟩:=hr.of_cons
 obtain⟨V2,rfl,hv2⟩:=hr.one
 obtain⟨w0a,w0b,z0,rfl,f0a,f0b⟩:=dGraph_ok R hv0 hp0
 obtain⟨z1,f1⟩:=dConf_ok R hv1 hp1
 obtain rfl:=dSc_ok hv2 hp2
 obtain⟨rfl,rfl⟩:=oBool_some h
 exact hook_plain body6 (t_crash_Coloured 1000 (p0:=p0) (p1:=p1) (p2:=p2) w0a w0b z0 V1 z1 r hm) R (List.forall_mem_cons.2 ⟨f0a,List.forall_mem_cons.2 ⟨f0b,List.forall_mem_cons.2 ⟨f1,fun f hf=>absurd hf List.not_mem_nil⟩⟩⟩) fun ρ=> .bool _
theorem hk11_ok (h:hk11 us H=some (g,H')) (R:Rel w0 ρ H w) (hr:RlL ρ us vs):CallSem Tryz.prog w0 ρ 11 vs w g H':=by
 obtain⟨x0,x1,x2,rfl,h⟩:=a3_some h
 obtain⟨p0,hp0,h⟩:=ob_some.1 h
 obtain⟨p1,hp1,h⟩:=ob_some.1 h
 obtain⟨p2,hp2,h⟩:=ob_some.1 h
 obtain⟨r,hm,h⟩:=ob_some.1 h
 obtain⟨V0,vs,rfl,hv0,hr⟩:=hr.of_cons
 obtain⟨V1,vs,rfl,hv1,hr⟩:=hr.of_cons
 obtain⟨V2,rfl,hv2⟩:=hr.one
 obtain⟨w0a,w0b,z0,rfl,f0a,f0b⟩:=dGraph_ok R hv0 hp0
 obtain⟨z1,f1⟩:=dConf_ok R hv1 hp1
 obtain rfl:=dSc_ok hv2 hp2
 obtain⟨h1,rfl,rfl⟩:=oInts_some h
 exact hook_sl gI_ok h1 body11 (t_crash_Distances 1000 (p0:=p0) (p1:=p1) (p2:=p2) w0a w0b z0 V1 z1 r hm) R (List.forall_mem_cons.2 ⟨f0a,List.forall_mem_cons.2 ⟨f0b,List.forall_mem_cons.2 ⟨f1,fun f hf=>absurd hf List.not_mem_nil⟩⟩⟩)
theorem gext_ok {f:Nat} (h:gext f us H=some (g,H')) (R:Rel w0 ρ H w) (hr:RlL ρ us vs):CallSem Tryz.prog w0 ρ f vs w g H':=by
 unfold gext at h
 cases e0:Nat.beq f 22 with
 |true=>rw[e0]at h;rw[Nat.eq_of_beq_eq_true e0];exact hk22_ok h R hr
 |false=>
 rw[e0]at h
 cases e1:Nat.beq f 18 with
 |true=>rw[e1]at h;rw[Nat.eq_of_beq_eq_true e1];exact hk18_ok h R hr
 |false=>
 rw[e1]at h
 cases e2:Nat.beq f 6 with
 |true=>rw[e2]at h;rw[Nat.eq_of_beq_eq_true e2];exact hk6_ok h R hr
 |false=>
 rw[e2]at h
 cases e3:Nat.beq f 11 with
 |true=>rw[e3]at h;rw[Nat.eq_of_beq_eq_true e3];exact hk11_ok h R hr
 |false=>
 rw[e3]at h
 cases h
end
theorem tabs_ok:TabOk Tryz.prog tyTab:=⟨tyTab_ok⟩
theorem rec_ok (w0:Base):CallOk Tryz.prog w0 (chOne tyTab 77 Tryz.f77):=chOne_ok tabs_ok mixedOrders Tryz.func77 Tryz.call77 (by kernel_rfl)
theorem def_ok (args:Array Value) (w:World) (hs:args.size=2):CallsDIn (FR none) 0 Tryz.prog 76 args .returning w fun e u' w'=>∃v,e = .returned v∧u' = .returning∧Ext w w':=by
 obtain⟨out,h,he⟩:=okN_spec (r:=evOps tyTab (chOne tyTab 77 Tryz.f77) (bodyOps Tryz.f76) (evC tyTab (chOne tyTab 77 Tryz.f77) (fun _ _ _ _=>none) (bodyRest Tryz.f76) 0 ⟨[],0,[]⟩ (retN [])) (bodyOps Tryz.f76).tail ⟨[(bodyDst Tryz.f76,.inil)],H0⟩) (by kernel_rfl)
 exact caught_ok (ch:=chOne tyTab 77 Tryz.f77) (lp:=fun _ _ _ _=>none) tabs_ok mixedOrders rec_ok loopOk_none Tryz.func76 rfl rfl rfl (by decide +kernel) (fun ρ w=>by simp[execOp,resolve,invoke,builtin]) (by kernel_rfl) (by kernel_rfl) rfl (by rw[hs];decide +kernel) h he
theorem gok (w0:Base):GOk Tryz.prog gp rtab.fns w0:=by
 refine⟨tabs_ok,mixedOrders,fun h=> ?_,fun h ρ w vs R hr=>gext_ok h R hr,fun h ρ w vs H R hr=>gexn_ok Tryz.func153 rfl rfl rfl rfl h ρ w vs H R hr,fun R hc h1 h2=> ?_⟩
 ·obtain⟨e,he,h⟩:=ob_some.1 (show ob (rtabF _) _=some _ from h)
  cases h
  obtain⟨q1,q2,q3⟩:=rtabF_fn he
  exact⟨q1,q2,okF_spec q3⟩
 ·exact cat_ok (tb:=tyTab) (T1:=3) (T2:=69) (cc:=76) tabs_ok Tryz.func60 Tryz.call60 Tryz.call76 rfl rfl rfl (alloc_z (by kernel_rfl)) (alloc_z (by kernel_rfl)) (store_z rfl rfl) (store_z rfl rfl) (load_z rfl rfl) (load_z rfl rfl) def_ok R hc h1 h2
end
end Go.Gx
end
section
namespace Go.Proofs.YtfimaabbclepbaaGreat
open Go Go.Sx Go.Gx
set_option maxRecDepth 100000
def m_law44_known (fuel:Nat):Option (Bool):=some (true)
theorem body5:HasBody Tryz.prog 5:=Tryz.call5
theorem closed5:okT (callR rtab gp 4000 5 [] H0)=true:=by kernel_rfl
theorem t_law44_known (fuel:Nat) (r:Bool) (h:m_law44_known fuel=some r):
  Meets Tryz.prog 5 #[] [] (fun x:Unit=>Value.bool (r)) (fun x l=>l) (fun _ l=>l):=by
 obtain rfl:=Option.some.inj h
 obtain⟨H',h1⟩:=okT_spec closed5
 rw[callR_eq rtab_ok]at h1
 exact meets_closed body5 (fun ρ V' h=>h.bool_inv) fun w=>callF_ok gok h1 (Rel.start w _) .nil
end Go.Proofs.YtfimaabbclepbaaGreat
end
section
namespace Go.Proofs.YtfimaabbclepbaaGreat
open Go Go.Sx
theorem same2 {P:Prop} {a b:Option Bool} (ha:(P->a=some true)∧(¬P->a=some false)) (hb:(P->b=some true)∧(¬P->b=some false)):∃x,a=some x∧b=some x:=by
 by_cases h:P
 ·exact⟨true,ha.1 h,hb.1 h⟩
 ·exact⟨false,ha.2 h,hb.2 h⟩
end Go.Proofs.YtfimaabbclepbaaGreat
end
section
namespace Go.Proofs.YtfimaabbclepbaaGreat
open Go.Sx
def _world_Net__more_k1 (p1:List (Int)×(List (List (Int×Int)))) (a6:(List (List (Int×Int)))):Option ((List (Int)×(List (List (Int×Int))))):=
 some ((p1.1,a6))
def _world_Net__more_k2 (fuel:Nat) (p0:Int×List (Int)×List (Int)×List (Int)×Bool×Bool) (p1:List (Int)×(List (List (Int×Int)))) (a14:Int×(List (List (Int×Int)))) (ag13:(Int×(List (List (Int×Int))))->Option ((List (Int)×(List (List (Int×Int)))))) (a18:Bool):Option ((List (Int)×(List (List (Int×Int))))):=
 if a18=true then(ck (0<=a14.1∧a14.1<(List.length p0.2.1:Int)) (Option.bind (m_world_Within fuel (at' p0.2.1 a14.1) (List.length p1.2:Int)) fun r22=>(ck (0<=(wI .i64 (a14.1+(1:Int)))∧(wI .i64 (a14.1+(1:Int)))<(List.length p0.2.1:Int)) (Option.bind (m_world_Within fuel (at' p0.2.1 (wI .i64 (a14.1+(1:Int)))) (List.length p1.2:Int)) fun r26=>(Option.bind (m_world_at fuel p0.2.2.1 a14.1) fun r29=>(Option.bind (m_world_Within fuel r29 (15:Int)) fun r32=>(Option.bind (m__world_Net__link fuel ((p0.1,p0.2.1,p0.2.2.1,p0.2.2.2.1,p0.2.2.2.2.1,p0.2.2.2.2.2)) ((p1.1,a14.2)) r22 r26 (wI .i64 ((1:Int)+r32))) fun r35=>(ag13 ((wI .i64 (a14.1+(2:Int))),r35)))))))))else(_world_Net__more_k1 p1 (a14.2))
def _world_Net__more_s1 (fuel:Nat) (p0:Int×List (Int)×List (Int)×List (Int)×Bool×Bool) (p1:List (Int)×(List (List (Int×Int)))) (a14:Int×(List (List (Int×Int)))) (ag13:(Int×(List (List (Int×Int))))->Option ((List (Int)×(List (List (Int×Int)))))):Option ((List (Int)×(List (List (Int×Int))))):=
 if(wI .i64 (a14.1+(1:Int)))<(List.length p0.2.1:Int)then(_world_Net__more_k2 fuel p0 p1 a14 ag13 (decide (a14.1<(60:Int))))else(_world_Net__more_k2 fuel p0 p1 a14 ag13 (false))
def m__world_Net__more (fuel:Nat) (p0:Int×List (Int)×List (Int)×List (Int)×Bool×Bool) (p1:List (Int)×(List (List (Int×Int)))):Option ((List (Int)×(List (List (Int×Int))))):=
 iter (_world_Net__more_s1 fuel p0 p1) fuel ((List.length p1.2:Int),p1.2)
theorem body36:HasBody Tryz.prog 36:=Tryz.call36
theorem t__world_Net__more (fuel:Nat) {p0:Int×List (Int)×List (Int)×List (Int)×Bool×Bool} {p1:List (Int)×(List (List (Int×Int)))} (v0:Value)  (v1:Value)  (v2:Value)  (v3:Value)  (v4:Value)  (w5:List Value) (r:(List (Int)×(List (List (Int×Int))))) (h:m__world_Net__more fuel p0 p1=some r):
  MeetsM Tryz.prog 36 #[Value.agg #[Value.int .i64 (p0.1),v0,v1,v2,Value.bool (p0.2.2.2.2.1),Value.bool (p0.2.2.2.2.2)],Value.agg #[v3,v4]] [Ar EI64 v3 p1.1,Ar Enc.raw v4 w5,Rws EI64I64p w5 p1.2] [Sl RI64 v0 p0.2.1,Sl RI64 v1 p0.2.2.1,Sl RI64 v2 p0.2.2.2.1] (fun x:Value×Value×List Value=>Value.agg #[x.1,x.2.1]) (fun x l=>Ar EI64 x.1 r.1::Ar Enc.raw x.2.1 x.2.2::Rws EI64I64p x.2.2 r.2::l):=by
 refine MeetsM.of (vs:=[Value.agg #[Value.int .i64 (p0.1),v0,v1,v2,Value.bool (p0.2.2.2.2.1),Value.bool (p0.2.2.2.2.2)],Value.agg #[v3,v4]]) Tryz.func36 rfl Tryz.ntmps36 rfl fun c=> ?_
 unfold m__world_Net__more at h
 refine J.seq<|J.region<|J.loud (Loud.box (cs:=[Value.int .i64 (p0.1),v0,v1,v2,Value.bool (p0.2.2.2.2.1),Value.bool (p0.2.2.2.2.2)]) rfl rfl) rfl fun b1=>J.loud (Loud.box (cs:=[v3,v4]) rfl rfl) rfl fun b2=>J.loud (Loud.alloc (cs:=[Value.slice none 0 0,Value.slice none 0 0]) rfl rfl) rfl fun b3=>J.done<|J.thenN<|J.seq<|J.region<|J.quiet (Y.fieldB rfl rfl rfl rfl rfl) rfl<|J.quiet (Y.loadB 1 rfl rfl rfl rfl rfl) rfl<|J.quiet (Y.lenN rfl (Lent.rows (i:=4) (j:=5) rfl rfl FI64I64p) rfl) rfl<|J.quiet (Y.assign rfl) rfl<|J.done<|J.thenN<|J.seq<|J.midI (A:=(List (List (Int×Int)))) (B:=List Value) (fun a6=>_world_Net__more_k1 p1 a6=some r) (fun a6 b7=>[(3,Value.pointer (some ⟨b2,0,none⟩)),(4,Value.pointer (some ⟨b3,0,none⟩))]) (fun a6 b7=>[Blk b3 [Value.slice none 0 0,Value.slice none 0 0] 25,Blk b2 [v3,v4] 25,Ar EI64 v3 p1.1,Ar Enc.raw v4 b7,Rws EI64I64p b7 a6]) (fun a6 b7=>[Sl RI64 v0 p0.2.1,Sl RI64 v1 p0.2.2.1,Sl RI64 v2 p0.2.2.2.1]) ?_ ?_
 ·refine J.seq<|J.region<|J.quiet (Y.move rfl) rfl<|J.quiet (Y.assign rfl) rfl<|J.done<|J.thenN<|J.block<|J.loopI (A:=Int×(List (List (Int×Int)))) (B:=List Value) (_world_Net__more_s1 fuel p0 p1) (fun a14 b15=>[(2,Value.pointer (some ⟨b1,0,none⟩)),(3,Value.pointer (some ⟨b2,0,none⟩)),(4,Value.pointer (some ⟨b3,0,none⟩)),(5,Value.int .i64 (List.length p1.2:Int)),(6,Value.int .i64 (a14.1))]) (fun a14 b15=>[Blk b3 [Value.slice none 0 0,Value.slice none 0 0] 25,Blk b2 [v3,v4] 25,Blk b1 [Value.int .i64 (p0.1),v0,v1,v2,Value.bool (p0.2.2.2.2.1),Value.bool (p0.2.2.2.2.2)] 33,Ar EI64 v3 p1.1,Ar Enc.raw v4 b15,Rws EI64I64p b15 a14.2]) (fun a14 b15=>[Sl RI64 v0 p0.2.1,Sl RI64 v1 p0.2.2.1,Sl RI64 v2 p0.2.2.2.1]) ((List.length p1.2:Int),p1.2) (w5) h SF (SubM.refl _) (LentAll.refl _ _) ?_
  clear h
  intro k16 a14 b15 h
  unfold _world_Net__more_s1 at h
  refine J.seq<|J.seq<|J.midI (A:=Bool) (B:=Unit) (fun a18=>_world_Net__more_k2 fuel p0 p1 a14 (iter (_world_Net__more_s1 fuel p0 p1) k16) a18=some r) (fun a18 b19=>[(2,Value.pointer (some ⟨b1,0,none⟩)),(3,Value.pointer (some ⟨b2,0,none⟩)),(4,Value.pointer (some ⟨b3,0,none⟩)),(5,Value.int .i64 (List.length p1.2:Int)),(6,Value.int .i64 (a14.1)),(20,Value.bool (a18))]) (fun a18 b19=>[Blk b3 [Value.slice none 0 0,Value.slice none 0 0] 25,Blk b2 [v3,v4] 25,Blk b1 [Value.int .i64 (p0.1),v0,v1,v2,Value.bool (p0.2.2.2.2.1),Value.bool (p0.2.2.2.2.2)] 33,Ar EI64 v3 p1.1,Ar Enc.raw v4 b15,Rws EI64I64p b15 a14.2]) (fun a18 b19=>[Sl RI64 v0 p0.2.1,Sl RI64 v1 p0.2.2.1,Sl RI64 v2 p0.2.2.2.1]) ?_ ?_
  ·refine J.region<|J.quiet (Y.move rfl) rfl<|J.quiet (Y.addW rfl rfl) rfl<|J.quiet (Y.fieldB rfl rfl rfl rfl rfl) rfl<|J.quiet (Y.loadB 2 rfl rfl rfl rfl rfl) rfl<|J.quiet (Y.lenS rfl (Lent.fact 0 rfl) rfl) rfl<|J.quiet (Y.lss rfl rfl) rfl<|J.quiet (Y.move rfl) rfl ?_
   refine J.guardD (by exact rfl) (by exact rfl) (fun hp38=> ?_) (fun hp38=> ?_)
   ·have h:=ifP hp38 h
    refine J.guardY rfl (Y.move rfl) rfl<|J.guardY rfl (Y.lss rfl rfl) rfl<|J.quiet (Y.pickT rfl rfl) rfl<|J.done<|J.thenN ?_
    exact J.meetI (decide (a14.1<(60:Int))) (()) h SF (SubM.refl _) (LentAll.refl _ _)
   ·have h:=ifN hp38 h
    refine J.guardN rfl rfl rfl<|J.guardN rfl rfl rfl<|J.quiet (Y.pickF rfl rfl) rfl<|J.done<|J.thenN ?_
    exact J.meetI (false) (()) h SF (SubM.refl _) (LentAll.refl _ _)
  ·clear h
   intro a18 b19 h
   unfold _world_Net__more_k2 at h
   refine J.cond (by exact rfl) (fun hp20=> ?_) (fun hp20=> ?_)
   ·have h:=ifP hp20 h
    refine J.skip<|J.thenN<|J.seq<|J.block ?_
    refine JR.start [0,0,0,4,0,28,60,0,252,0,512,0,2048,7680,15872,0,65532,0,131072,0,1048572,2097148,4194300,8388607] 23 mixedOrders (by decide +kernel) ?_
    refine JR.open (by exact rfl) ?_
    refine JR.qt rfl (SubM.cons 2 rfl (SubM.nil)) (SubL.nil) (Y.loadBAll 0 rfl rfl rfl rfl) HistOk.z<|JR.qt rfl (SubM.cons 1 rfl (SubM.nil)) (SubL.nil) (Y.loadBAll 0 rfl rfl rfl rfl) HistOk.z<|JR.qt rfl (SubM.nil) (SubL.nil) (Y.fieldB rfl rfl rfl rfl rfl) HistOk.z<|JR.qt rfl (SubM.cons 2 rfl (SubM.nil)) (SubL.nil) (Y.loadB 0 rfl rfl rfl rfl rfl) HistOk.z<|JR.qt rfl (SubM.nil) (SubL.nil) (Y.move rfl) HistOk.z ?_
    have h:=ck_some h;obtain⟨hc21,h⟩:=h
    refine JR.qt rfl (SubM.nil) (SubL.cons (List.mem_of_getElem? (i:=0) rfl) (SubL.nil)) (Y.indexS rfl rfl (Lent.fact 0 rfl) rfl rfl hc21) HistOk.z<|JR.qt rfl (SubM.nil) (SubL.cons (List.mem_of_getElem? (i:=0) rfl) (SubL.nil)) (Y.loadS0 rfl (Lent.fact 0 rfl) rfl rfl rfl RI64c0 hc21) HistOk.z<|JR.qt rfl (SubM.nil) (SubL.nil) (Y.move rfl) HistOk.z ?_
    have h:=bnd h;obtain⟨r22,hr23,h⟩:=h
    refine JR.loud rfl rfl rfl (Loud.callL body38 (t_world_Within fuel  r22 hr23) rfl .nil (fun _ _=>rfl)) rfl (fun x24=>(BsOk.b rfl (BsOk.b rfl (BsOk.b rfl (BsOk.b rfl (BsOk.b rfl (BsOk.b rfl (BsOk.h (SubM.cons 1 rfl (SubM.nil)) (SubL.nil) (BsOk.h (SubM.cons 2 rfl (SubM.nil)) (SubL.nil) BsOk.z))))))))) fun x24=>JR.qt rfl (SubM.nil) (SubL.nil) (Y.fieldB rfl rfl rfl rfl rfl) (HistOk.h (SubM.nil) (SubL.nil) HistOk.z)<|JR.qt rfl (SubM.cons 2 rfl (SubM.nil)) (SubL.nil) (Y.loadB 0 rfl rfl rfl rfl rfl) (HistOk.h (SubM.cons 2 rfl (SubM.nil)) (SubL.nil) HistOk.z)<|JR.qt rfl (SubM.nil) (SubL.nil) (Y.move rfl) (HistOk.h (SubM.nil) (SubL.nil) HistOk.z)<|JR.qt rfl (SubM.nil) (SubL.nil) (Y.addW rfl rfl) (HistOk.h (SubM.nil) (SubL.nil) HistOk.z) ?_
    have h:=ck_some h;obtain⟨hc25,h⟩:=h
    refine JR.qt rfl (SubM.nil) (SubL.cons (List.mem_of_getElem? (i:=0) rfl) (SubL.nil)) (Y.indexS rfl rfl (Lent.fact 0 rfl) rfl rfl hc25) (HistOk.h (SubM.nil) (SubL.cons (List.mem_of_getElem? (i:=0) rfl) (SubL.nil)) HistOk.z)<|JR.qt rfl (SubM.nil) (SubL.cons (List.mem_of_getElem? (i:=0) rfl) (SubL.nil)) (Y.loadS0 rfl (Lent.fact 0 rfl) rfl rfl rfl RI64c0 hc25) (HistOk.h (SubM.nil) (SubL.cons (List.mem_of_getElem? (i:=0) rfl) (SubL.nil)) HistOk.z)<|JR.qt rfl (SubM.nil) (SubL.nil) (Y.move rfl) (HistOk.h (SubM.nil) (SubL.nil) HistOk.z) ?_
    have h:=bnd h;obtain⟨r26,hr27,h⟩:=h
    refine JR.loud rfl rfl rfl (Loud.callL body38 (t_world_Within fuel  r26 hr27) rfl .nil (fun _ _=>rfl)) rfl (fun x28=>(BsOk.b rfl (BsOk.b rfl (BsOk.b rfl (BsOk.b rfl (BsOk.b rfl (BsOk.b rfl (BsOk.b rfl (BsOk.b rfl (BsOk.b rfl (BsOk.b rfl (BsOk.b rfl (BsOk.b rfl (BsOk.b rfl (BsOk.h (SubM.cons 1 rfl (SubM.nil)) (SubL.nil) (BsOk.h (SubM.cons 2 rfl (SubM.nil)) (SubL.nil) BsOk.z)))))))))))))))) fun x28=>JR.qt rfl (SubM.nil) (SubL.nil) (Y.fieldB rfl rfl rfl rfl rfl) (HistOk.h (SubM.nil) (SubL.nil) (HistOk.h (SubM.nil) (SubL.nil) HistOk.z))<|JR.qt rfl (SubM.cons 2 rfl (SubM.nil)) (SubL.nil) (Y.loadB 0 rfl rfl rfl rfl rfl) (HistOk.h (SubM.cons 2 rfl (SubM.nil)) (SubL.nil) (HistOk.h (SubM.cons 2 rfl (SubM.nil)) (SubL.nil) HistOk.z))<|JR.qt rfl (SubM.nil) (SubL.nil) (Y.move rfl) (HistOk.h (SubM.nil) (SubL.nil) (HistOk.h (SubM.nil) (SubL.nil) HistOk.z)) ?_
    have h:=bnd h;obtain⟨r29,hr30,h⟩:=h
    refine JR.loud rfl rfl rfl (Loud.callL body39 (t_world_at fuel v1 r29 hr30) rfl (LentAll.cons (Lent.fact 1 rfl) .nil) (fun _ _=>rfl)) rfl (fun x31=>(BsOk.b rfl (BsOk.b rfl (BsOk.b rfl (BsOk.b rfl (BsOk.b rfl (BsOk.b rfl (BsOk.b rfl (BsOk.b rfl (BsOk.b rfl (BsOk.b rfl (BsOk.b rfl (BsOk.b rfl (BsOk.b rfl (BsOk.b rfl (BsOk.b rfl (BsOk.b rfl (BsOk.h (SubM.cons 1 rfl (SubM.nil)) (SubL.nil) (BsOk.h (SubM.cons 2 rfl (SubM.nil)) (SubL.nil) BsOk.z))))))))))))))))))) fun x31=> ?_
    have h:=bnd h;obtain⟨r32,hr33,h⟩:=h
    refine JR.loud rfl rfl rfl (Loud.callL body38 (t_world_Within fuel  r32 hr33) rfl .nil (fun _ _=>rfl)) rfl (fun x34=>(BsOk.b rfl (BsOk.b rfl (BsOk.b rfl (BsOk.b rfl (BsOk.b rfl (BsOk.b rfl (BsOk.b rfl (BsOk.b rfl (BsOk.b rfl (BsOk.b rfl (BsOk.b rfl (BsOk.b rfl (BsOk.b rfl (BsOk.b rfl (BsOk.b rfl (BsOk.b rfl (BsOk.h (SubM.cons 1 rfl (SubM.nil)) (SubL.nil) (BsOk.h (SubM.cons 2 rfl (SubM.nil)) (SubL.nil) BsOk.z))))))))))))))))))) fun x34=>JR.qt rfl (SubM.nil) (SubL.nil) (Y.addW rfl rfl) (HistOk.b rfl (HistOk.b rfl (HistOk.b rfl (HistOk.b rfl HistOk.z))))<|JR.tailD 23 rfl rfl ?_
    have h:=bnd h;obtain⟨r35,hr36,h⟩:=h
    refine J.loud (Loud.callM (Min:=[Ar Enc.raw v4 b15,Rws EI64I64p b15 a14.2]) (Mr:=[Blk b3 [Value.slice none 0 0,Value.slice none 0 0] 25,Blk b2 [v3,v4] 25,Blk b1 [Value.int .i64 (p0.1),v0,v1,v2,Value.bool (p0.2.2.2.2.1),Value.bool (p0.2.2.2.2.2)] 33,Ar EI64 v3 p1.1]) body43 (t__world_Net__link fuel v0 v1 v2 v3 v4 b15 r35 hr36) rfl (SubM.cons 4 rfl (SubM.cons 4 rfl (SubM.cons 0 rfl (SubM.cons 0 rfl (SubM.cons 0 rfl (SubM.cons 0 rfl (SubM.nil))))))) (LentAll.cons (Lent.fact 0 rfl) (LentAll.cons (Lent.fact 1 rfl) (LentAll.cons (Lent.fact 2 rfl) (LentAll.cons (Lent.ar (Lent.res 3 rfl) FI64) .nil)))) (fun _ _=>rfl)) rfl fun x37=>J.done<|J.inN<|J.thenN<|J.region<|J.quiet (Y.move rfl) rfl<|J.quiet (Y.addW rfl rfl) rfl<|J.quiet (Y.assign rfl) rfl<|J.done<|J.thenN ?_
    exact J.againI ((wI .i64 (a14.1+(2:Int))),r35) (x37) h SF (SubM.cons 2 rfl (SubM.cons 2 rfl (SubM.cons 2 rfl (SubM.cons 2 rfl (SubM.cons 0 rfl (SubM.cons 0 rfl (SubM.nil))))))) (LentAll.refl _ _)
   ·have h:=ifBN hp20 h
    refine J.exit<|J.thenX<|J.thenX<|J.inX<|J.thenN ?_
    exact J.meetI (a14.2) (b15) h SF (SubM.cons 0 rfl (SubM.cons 0 rfl (SubM.cons 1 rfl (SubM.cons 1 rfl (SubM.cons 1 rfl (SubM.nil)))))) (LentAll.refl _ _)
 ·clear h
  intro a6 b7 h
  unfold _world_Net__more_k1 at h
  refine J.seq<|J.region<|J.quiet (Y.loadBAll 1 rfl rfl rfl rfl) rfl<|J.know (Know.one ((Lent.ar (Lent.res 2 rfl) FI64))) fun ho8=>J.know (Know.one (Lent.sl (Lent.rows (i:=3) (j:=4) rfl rfl FI64I64p))) fun ho9=>J.storeAll 0 (vs:=[v3,v4]) rfl rfl (all1 ho8 (all1 ho9 rfl)) rfl rfl rfl<|J.done<|J.thenN<|J.ret ?_
  obtain rfl:=Option.some.inj h
  exact J.retG1 (v3,v4,b7) rfl rfl (RV.cell 0 rfl rfl rfl rfl) (SubM.cons 2 rfl (SubM.cons 2 rfl (SubM.cons 2 rfl (SubM.nil)))) LentAll.nil
end Go.Proofs.YtfimaabbclepbaaGreat
end
section
namespace Go.Proofs.YtfimaabbclepbaaGreat
open Go.Sx
def m__world_Net__Connected (fuel:Nat) (p0:Int×List (Int)×List (Int)×List (Int)×Bool×Bool) (p1:Int):Option ((List (Int)×(List (List (Int×Int))))):=
 Option.bind (m__world_Net__Tree fuel ((p0.1,p0.2.1,p0.2.2.1,p0.2.2.2.1,p0.2.2.2.2.1,p0.2.2.2.2.2)) p1) fun r3=>(Option.bind (m__world_Net__more fuel ((p0.1,p0.2.1,p0.2.2.1,p0.2.2.2.1,p0.2.2.2.2.1,p0.2.2.2.2.2)) ((r3.1,r3.2))) fun r6=>(some ((r6.1,r6.2))))
theorem body35:HasBody Tryz.prog 35:=Tryz.call35
theorem t__world_Net__Connected (fuel:Nat) {p0:Int×List (Int)×List (Int)×List (Int)×Bool×Bool} {p1:Int} (v0:Value)  (v1:Value)  (v2:Value) (r:(List (Int)×(List (List (Int×Int))))) (h:m__world_Net__Connected fuel p0 p1=some r):
  Meets Tryz.prog 35 #[Value.agg #[Value.int .i64 (p0.1),v0,v1,v2,Value.bool (p0.2.2.2.2.1),Value.bool (p0.2.2.2.2.2)],Value.int .i64 (p1)] [Sl RI64 v0 p0.2.1,Sl RI64 v1 p0.2.2.1,Sl RI64 v2 p0.2.2.2.1] (fun x:Value×Value×List Value=>Value.agg #[x.1,x.2.1]) (fun x l=>Ar EI64 x.1 r.1::Ar Enc.raw x.2.1 x.2.2::Rws EI64I64p x.2.2 r.2::l) (fun _ l=>l):=by
 refine Meets.of (vs:=[Value.agg #[Value.int .i64 (p0.1),v0,v1,v2,Value.bool (p0.2.2.2.2.1),Value.bool (p0.2.2.2.2.2)],Value.int .i64 (p1)]) Tryz.func35 rfl Tryz.ntmps35 rfl fun c=> ?_
 unfold m__world_Net__Connected at h
 refine J.seq<|J.region<|J.loud (Loud.box (cs:=[Value.int .i64 (p0.1),v0,v1,v2,Value.bool (p0.2.2.2.2.1),Value.bool (p0.2.2.2.2.2)]) rfl rfl) rfl fun b1=>J.loud (Loud.alloc (cs:=[Value.slice none 0 0,Value.slice none 0 0]) rfl rfl) rfl fun b2=>J.done<|J.thenN<|J.seq ?_
 refine JR.start [0,0,0,6,15,31] 4 mixedOrders (by decide +kernel) ?_
 refine JR.open (by exact rfl) ?_
 refine JR.qt rfl (SubM.cons 1 rfl (SubM.nil)) (SubL.nil) (Y.loadBAll 0 rfl rfl rfl rfl) HistOk.z<|JR.qt rfl (SubM.cons 1 rfl (SubM.nil)) (SubL.nil) (Y.loadBAll 0 rfl rfl rfl rfl) HistOk.z<|JR.qt rfl (SubM.nil) (SubL.nil) (Y.move rfl) HistOk.z ?_
 have h:=bnd h;obtain⟨r3,hr4,h⟩:=h
 refine JR.loud rfl rfl rfl (Loud.callL body18 (t__world_Net__Tree fuel v0 v1 v2 r3 hr4) rfl (LentAll.cons (Lent.fact 0 rfl) (LentAll.cons (Lent.fact 1 rfl) (LentAll.cons (Lent.fact 2 rfl) .nil))) (fun _ _=>rfl)) rfl (fun x5=>(BsOk.b rfl (BsOk.b rfl (BsOk.h (SubM.cons 4 rfl (SubM.nil)) (SubL.nil) BsOk.z)))) fun x5=>JR.tailD 4 rfl rfl ?_
 have h:=bnd h;obtain⟨r6,hr7,h⟩:=h
 refine J.loud (Loud.callM (Min:=[Ar EI64 x5.1 r3.1,Ar Enc.raw x5.2.1 x5.2.2,Rws EI64I64p x5.2.2 r3.2]) (Mr:=[Blk b2 [Value.slice none 0 0,Value.slice none 0 0] 25,Blk b1 [Value.int .i64 (p0.1),v0,v1,v2,Value.bool (p0.2.2.2.2.1),Value.bool (p0.2.2.2.2.2)] 33]) body36 (t__world_Net__more fuel v0 v1 v2 x5.1 x5.2.1 x5.2.2 r6 hr7) rfl (SubM.refl _) (LentAll.cons (Lent.fact 0 rfl) (LentAll.cons (Lent.fact 1 rfl) (LentAll.cons (Lent.fact 2 rfl) .nil))) (fun _ _=>rfl)) rfl fun x8=>J.know (Know.one ((Lent.ar (Lent.res 0 rfl) FI64))) fun ho9=>J.know (Know.one (Lent.sl (Lent.rows (i:=1) (j:=2) rfl rfl FI64I64p))) fun ho10=>J.storeAll 3 (vs:=[x8.1,x8.2.1]) rfl rfl (all1 ho9 (all1 ho10 rfl)) rfl rfl rfl<|J.done<|J.thenN<|J.ret ?_
 obtain rfl:=Option.some.inj h
 exact J.retG1 (x8.1,x8.2.1,x8.2.2) rfl rfl (RV.cell 3 rfl rfl rfl rfl) (SubM.cons 0 rfl (SubM.cons 0 rfl (SubM.cons 0 rfl (SubM.nil)))) LentAll.nil
end Go.Proofs.YtfimaabbclepbaaGreat
end
section
namespace Go.Proofs.YtfimaabbclepbaaGreat
open Go.Sx
def m__world_Net__Any (fuel:Nat) (p0:Int×List (Int)×List (Int)×List (Int)×Bool×Bool) (p1:Int):Option ((List (Int)×(List (List (Int×Int))))):=
 if(!p0.2.2.2.2.1)=true then(Option.bind (m__world_Net__Connected fuel ((p0.1,p0.2.1,p0.2.2.1,p0.2.2.2.1,p0.2.2.2.2.1,p0.2.2.2.2.2)) p1) fun r4=>(some ((r4.1,r4.2))))else(Option.bind (m__world_Net__nodes fuel ((p0.1,p0.2.1,p0.2.2.1,p0.2.2.2.1,p0.2.2.2.2.1,p0.2.2.2.2.2)) p1) fun r9=>(Option.bind (m__world_Net__more fuel ((p0.1,p0.2.1,p0.2.2.1,p0.2.2.2.1,p0.2.2.2.2.1,p0.2.2.2.2.2)) ((r9.1,r9.2))) fun r12=>(some ((r12.1,r12.2)))))
theorem body13:HasBody Tryz.prog 13:=Tryz.call13
theorem t__world_Net__Any (fuel:Nat) {p0:Int×List (Int)×List (Int)×List (Int)×Bool×Bool} {p1:Int} (v0:Value)  (v1:Value)  (v2:Value) (r:(List (Int)×(List (List (Int×Int))))) (h:m__world_Net__Any fuel p0 p1=some r):
  Meets Tryz.prog 13 #[Value.agg #[Value.int .i64 (p0.1),v0,v1,v2,Value.bool (p0.2.2.2.2.1),Value.bool (p0.2.2.2.2.2)],Value.int .i64 (p1)] [Sl RI64 v0 p0.2.1,Sl RI64 v1 p0.2.2.1,Sl RI64 v2 p0.2.2.2.1] (fun x:Value×Value×List Value=>Value.agg #[x.1,x.2.1]) (fun x l=>Ar EI64 x.1 r.1::Ar Enc.raw x.2.1 x.2.2::Rws EI64I64p x.2.2 r.2::l) (fun _ l=>l):=by
 refine Meets.of (vs:=[Value.agg #[Value.int .i64 (p0.1),v0,v1,v2,Value.bool (p0.2.2.2.2.1),Value.bool (p0.2.2.2.2.2)],Value.int .i64 (p1)]) Tryz.func13 rfl Tryz.ntmps13 rfl fun c=> ?_
 unfold m__world_Net__Any at h
 refine J.seq<|J.region<|J.loud (Loud.box (cs:=[Value.int .i64 (p0.1),v0,v1,v2,Value.bool (p0.2.2.2.2.1),Value.bool (p0.2.2.2.2.2)]) rfl rfl) rfl fun b1=>J.loud (Loud.alloc (cs:=[Value.slice none 0 0,Value.slice none 0 0]) rfl rfl) rfl fun b2=>J.done<|J.thenN<|J.seq<|J.seq<|J.region<|J.quiet (Y.fieldB rfl rfl rfl rfl rfl) rfl<|J.quiet (Y.loadB 1 rfl rfl rfl rfl rfl) rfl<|J.quiet (Y.not rfl) rfl<|J.done<|J.thenN ?_
 refine J.cond (by exact rfl) (fun hp3=> ?_) (fun hp3=> ?_)
 ·have h:=ifP hp3 h
  refine J.seq<|J.region<|J.quiet (Y.loadBAll 1 rfl rfl rfl rfl) rfl<|J.quiet (Y.move rfl) rfl ?_
  have h:=bnd h;obtain⟨r4,hr5,h⟩:=h
  refine J.loud (Loud.callL body35 (t__world_Net__Connected fuel v0 v1 v2 r4 hr5) rfl (LentAll.cons (Lent.fact 0 rfl) (LentAll.cons (Lent.fact 1 rfl) (LentAll.cons (Lent.fact 2 rfl) .nil))) (fun _ _=>rfl)) rfl fun x6=>J.know (Know.one ((Lent.ar (Lent.res 0 rfl) FI64))) fun ho7=>J.know (Know.one (Lent.sl (Lent.rows (i:=1) (j:=2) rfl rfl FI64I64p))) fun ho8=>J.storeAll 3 (vs:=[x6.1,x6.2.1]) rfl rfl (all1 ho7 (all1 ho8 rfl)) rfl rfl rfl<|J.done<|J.thenN<|J.ret<|J.thenR ?_
  obtain rfl:=Option.some.inj h
  exact J.retG1 (x6.1,x6.2.1,x6.2.2) rfl rfl (RV.cell 3 rfl rfl rfl rfl) (SubM.cons 0 rfl (SubM.cons 0 rfl (SubM.cons 0 rfl (SubM.nil)))) LentAll.nil
 ·have h:=ifBN hp3 h
  refine J.skip<|J.thenN<|J.seq ?_
  refine JR.start [0,0,0,6,15,31] 4 mixedOrders (by decide +kernel) ?_
  refine JR.open (by exact rfl) ?_
  refine JR.qt rfl (SubM.cons 1 rfl (SubM.nil)) (SubL.nil) (Y.loadBAll 0 rfl rfl rfl rfl) HistOk.z<|JR.qt rfl (SubM.cons 1 rfl (SubM.nil)) (SubL.nil) (Y.loadBAll 0 rfl rfl rfl rfl) HistOk.z<|JR.qt rfl (SubM.nil) (SubL.nil) (Y.move rfl) HistOk.z ?_
  have h:=bnd h;obtain⟨r9,hr10,h⟩:=h
  refine JR.loud rfl rfl rfl (Loud.callL body37 (t__world_Net__nodes fuel v0 v1 v2 r9 hr10) rfl (LentAll.cons (Lent.fact 0 rfl) (LentAll.cons (Lent.fact 1 rfl) (LentAll.cons (Lent.fact 2 rfl) .nil))) (fun _ _=>rfl)) rfl (fun x11=>(BsOk.b rfl (BsOk.b rfl (BsOk.h (SubM.cons 4 rfl (SubM.nil)) (SubL.nil) BsOk.z)))) fun x11=>JR.tailD 4 rfl rfl ?_
  have h:=bnd h;obtain⟨r12,hr13,h⟩:=h
  refine J.loud (Loud.callM (Min:=[Ar EI64 x11.1 r9.1,Ar Enc.raw x11.2.1 x11.2.2,Rws EI64I64p x11.2.2 r9.2]) (Mr:=[Blk b2 [Value.slice none 0 0,Value.slice none 0 0] 25,Blk b1 [Value.int .i64 (p0.1),v0,v1,v2,Value.bool (p0.2.2.2.2.1),Value.bool (p0.2.2.2.2.2)] 33]) body36 (t__world_Net__more fuel v0 v1 v2 x11.1 x11.2.1 x11.2.2 r12 hr13) rfl (SubM.refl _) (LentAll.cons (Lent.fact 0 rfl) (LentAll.cons (Lent.fact 1 rfl) (LentAll.cons (Lent.fact 2 rfl) .nil))) (fun _ _=>rfl)) rfl fun x14=>J.know (Know.one ((Lent.ar (Lent.res 0 rfl) FI64))) fun ho15=>J.know (Know.one (Lent.sl (Lent.rows (i:=1) (j:=2) rfl rfl FI64I64p))) fun ho16=>J.storeAll 3 (vs:=[x14.1,x14.2.1]) rfl rfl (all1 ho15 (all1 ho16 rfl)) rfl rfl rfl<|J.done<|J.thenN<|J.ret ?_
  obtain rfl:=Option.some.inj h
  exact J.retG1 (x14.1,x14.2.1,x14.2.2) rfl rfl (RV.cell 3 rfl rfl rfl rfl) (SubM.cons 0 rfl (SubM.cons 0 rfl (SubM.cons 0 rfl (SubM.nil)))) LentAll.nil
end Go.Proofs.YtfimaabbclepbaaGreat
end
section
namespace Go.Proofs.YtfimaabbclepbaaGreat
open Go.Sx
abbrev NETX:=Int×List (Int)×List (Int)×List (Int)×Bool×Bool
theorem within_eq (v m:Int) (h1:1<=m) (h2:m<=4611686018427387904):m_world_Within 1000 v m=some (v%m):=by
 unfold m_world_Within world_Within_k1
 rw[if_neg (by omega),ckT (by omega)]
 have hm:=Int.tmod_eq_emod (a:=v) (b:=m)
 have h0:=Int.emod_nonneg v (show m≠0 by omega)
 have h3:=Int.emod_lt_of_pos v (show 0<m by omega)
 by_cases hc:0<=v∨m∣v
 ·rw[if_pos hc]at hm
  have hm':v.tmod m=v%m:=by simpa using hm
  rw[hm',if_neg (by omega)]
 ·rw[if_neg hc]at hm
  have:(m.natAbs:Int)=m:=by omega
  rw[hm,if_pos (by omega),wr (by omega) (by omega)]
  congr 1;omega
theorem at_eq (l:List Int) (i:Int) (h:0<=i):m_world_at 1000 l i=some (at' l i):=by
 unfold m_world_at
 by_cases hi:i<(l.length:Int)
 ·rw[if_pos hi,ckT ⟨h,hi⟩]
 ·rw[if_neg hi]
  unfold at'
  rw[List.getD_eq_getElem?_getD,List.getElem?_eq_none (by omega)];rfl

theorem nodup_le {α:Type} [DecidableEq α]:∀(l1 l2:List α),l1.Nodup->(∀x∈l1,x∈l2)->l1.length<=l2.length
 | [],_,_,_=>Nat.zero_le _
 | a :: t, l2, hn, hs => by
  have hn':=List.nodup_cons.1 hn
  have ha:=hs a (List.mem_cons_self ..)
  have:=nodup_le t (l2.erase a) hn'.2 fun x hx=>by
   have hne:x≠a:=fun he=>hn'.1 (he▸hx)
   exact(List.mem_erase_of_ne hne).2 (hs x (List.mem_cons_of_mem _ hx))
  rw[List.length_erase_of_mem ha]at this
  have hpos:0<l2.length:=List.length_pos_of_mem ha
  simp only[List.length_cons]
  omega
theorem tries_le (id0:Int) (ids:List Int) (t:Nat) (ht:t<=200) (h:∀s,s<t->(id0+(s:Int))%256∈ids):t<=ids.length:=by
 have:=nodup_le ((List.range t).map fun s:Nat=>(id0+(s:Int))%256) ids (by
  rw[List.nodup_iff_pairwise_ne,List.pairwise_map]
  refine List.Pairwise.imp_of_mem ?_ List.pairwise_lt_range
  intro a b ha hb hab
  rw[List.mem_range]at ha hb
  omega) (fun x hx=>by
  obtain⟨s,hs,rfl⟩:=List.mem_map.1 hx
  exact h s (List.mem_range.1 hs))
 simpa using this

structure IdsOk (ids:List Int):Prop where
 rng:∀y∈ids,0<=y∧y<=255
 nd:ids.Nodup
theorem IdsOk.snoc {ids:List Int} {y:Int} (h:IdsOk ids) (hy:0<=y∧y<=255) (hn:y∉ids):IdsOk (ids++[y]):=by
 refine⟨fun z hz=> ?_,?_⟩
 ·rcases List.mem_append.1 hz with hz|hz
  ·exact h.rng z hz
  ·rw[List.mem_singleton.1 hz];exact hy
 ·rw[List.nodup_append]
  refine⟨h.nd,by simp,?_⟩
  intro a ha b hb
  rw[List.mem_singleton.1 hb]
  exact fun he=>hn (he▸ha)
theorem mem_of_at {α:Type} [Inhabited α] {l:List α} {i:Nat} (h:i<l.length):at' l (i:Int)∈l:=by
 rw[at'_nat,List.getD_eq_getElem?_getD,List.getElem?_eq_getElem h]
 exact List.getElem_mem h
theorem at_of_mem {α:Type} [Inhabited α] {l:List α} {x:α} (h:x∈l):∃i,i<l.length∧at' l ((i:Nat):Int)=x:=by
 obtain⟨i,hi,he⟩:=List.getElem_of_mem h
 refine⟨i,hi,?_⟩
 rw[at'_nat,List.getD_eq_getElem?_getD,List.getElem?_eq_getElem hi]
 exact he
theorem fresh_ok {Q:List Int×List (List (Int×Int))->Prop} {ids:List Int} (hl:ids.length<=24) (id0:Int) (ag:Int×List Int->Option (List Int×List (List (Int×Int))))
  (hag:∀y,0<=y->y<=255->y∉ids->OK Q (ag ((ids.length:Int)+1,ids++[y]))):OK Q (iter (_world_Net__nodes_s2 ((ids.length:Int),ids) ag) 1000 (id0%256,0)):=by
 refine iter_ok (fun s:Int×Int=>∃(t u:Nat),s.1=(id0+(t:Int))%256∧s.2=u∧u<=ids.length∧t<=ids.length∧(∀k,k<t->(id0+(k:Int))%256∈ids)∧∀j,j<u->at' ids (j:Int)≠s.1)
  (fun s=>(ids.length - ((s.1 - id0)%256).toNat)*30+(ids.length - s.2.toNat)) ?_ 1000 _ ⟨0,0,by simp,rfl,by omega,by omega,fun k hk=>by omega,fun j hj=>by omega⟩ ?_
 ·rintro⟨i,j⟩ ag' ⟨t,u,h1,h2,h3,h4,h5,h6⟩ hrec
  dsimp only at h1 h2 h6
  subst h2
  unfold _world_Net__nodes_s2 _world_Net__nodes_k2 _world_Net__nodes_k3
  dsimp only
  by_cases hu:(u:Int)<(ids.length:Int)
  ·rw[if_pos hu,ckT (by omega)]
   by_cases he:at' ids (u:Int)=i
   ·rw[if_pos he,ckT (by decide)]
    have hin:(id0+(t:Int))%256∈ids:=by rw[<-h1,<-he];exact mem_of_at (by omega)
    have hall:∀k,k<t+1->(id0+(k:Int))%256∈ids:=fun k hk=>by
     rcases Nat.lt_succ_iff_lt_or_eq.1 hk with h|h
     ·exact h5 k h
     ·subst h;exact hin
    have ht:=tries_le id0 ids (t+1) (by omega) hall
    have hi:0<=i∧i<=255:=by omega
    rw[wr (by omega) (by omega),Int.tmod_eq_emod_of_nonneg (by omega),wr (by omega) (by omega)]
    refine hrec _ ⟨t+1,0,?_,by simp,by omega,ht,hall,fun j hj=>by omega⟩ ?_
    ·dsimp only;omega
    ·dsimp only
     have e1:((i+1)%256 - id0)%256=(t:Int)+1:=by omega
     have e2:(i - id0)%256=(t:Int):=by omega
     rw[e1,e2];omega
   ·rw[if_neg he,wr (by omega) (by omega)]
    refine hrec _ ⟨t,u+1,h1,by dsimp only;omega,by omega,h4,h5,fun j hj=> ?_⟩ ?_
    ·rcases Nat.lt_succ_iff_lt_or_eq.1 hj with h|h
     ·exact h6 j h
     ·subst h;exact he
    ·dsimp only;omega
  ·rw[if_neg hu]
   rw[ckT (by simp;omega),wr (by omega) (by omega)]
   refine hag i (by omega) (by omega) fun hm=> ?_
   obtain⟨k,hk,hke⟩:=at_of_mem hm
   exact h6 k (by omega) hke
 ·dsimp only
  have e:(id0%256 - id0)%256=0:=by omega
  rw[e];omega
theorem nodes_ok (x:NETX) (most:Nat) (h1:1<=most) (h24:most<=24):OK (fun g:GR=>IdsOk g.1∧g.2=List.replicate g.1.length []∧1<=g.1.length∧g.1.length<=most) (m__world_Net__nodes 1000 x (most:Int)):=by
 unfold m__world_Net__nodes
 rw[bindS (within_eq _ _ (by omega) (by omega))]
 generalize hr:(wI .i64 (x.1 - 1))%(most:Int)=r
 have hr0:0<=r:=by rw[<-hr];exact Int.emod_nonneg _ (by omega)
 have hr1:r<most:=by rw[<-hr];exact Int.emod_lt_of_pos _ (by omega)
 have hw:wI .i64 (1+r)=1+r:=wr (by omega) (by omega)
 rw[hw,ckT (by omega)]
 refine iter_ok (fun s:Int×List Int=>s.1=(s.2.length:Int)∧(s.2.length:Int)<=1+r∧IdsOk s.2) (fun s=>(1+r - s.1).toNat) ?_ 1000 _ ⟨rfl,by simp;omega,⟨fun y hy=>by simp at hy,List.nodup_nil⟩⟩ (by dsimp only;omega)
 rintro⟨v,ids⟩ ag ⟨ha,hb,hc⟩ hrec
 dsimp only at ha hb hc
 subst ha
 unfold _world_Net__nodes_s1 _world_Net__nodes_k1
 dsimp only
 rw[hw]
 by_cases hv:(ids.length:Int)<1+r
 ·rw[if_pos hv,bindS (at_eq _ _ (by omega)),bindS (within_eq _ _ (by decide) (by decide))]
  exact fresh_ok (by omega) _ ag fun y y0 y1 y2=>hrec _ ⟨by simp,by simp;omega,hc.snoc ⟨y0,y1⟩ y2⟩ (by dsimp only;omega)
 ·rw[if_neg hv]
  refine⟨_,rfl,hc,?_,by dsimp only;omega,by dsimp only;omega⟩
  dsimp only
  congr 1;omega

structure VM (ids:List Int) (P:List (List (Int×Int))):Prop where
 n1:1<=P.length
 n24:P.length<=24
 len:ids.length=P.length
 ok:IdsOk ids
 nd:∀v:Nat,v<P.length->((at' P (v:Int)).map Prod.fst).Nodup
 lk:∀v:Nat,v<P.length->∀x∈at' P (v:Int),(0<=x.1∧x.1<=(P.length:Int) - 1)∧x.1≠(v:Int)∧(1<=x.2∧x.2<=15)∧((v:Int),x.2)∈at' P x.1
theorem nodup_at {α:Type} [Inhabited α] {l:List α} (h:l.Nodup) {i j:Nat} (hi:i<l.length) (hj:j<l.length) (hij:i<j):at' l (i:Int)≠at' l (j:Int):=by
 rw[at'_nat,at'_nat,List.getD_eq_getElem?_getD,List.getD_eq_getElem?_getD,List.getElem?_eq_getElem hi,List.getElem?_eq_getElem hj]
 exact List.pairwise_iff_getElem.1 (List.nodup_iff_pairwise_ne.1 h) i j hi hj hij
theorem VM.vg {ids:List Int} {P:List (List (Int×Int))} (h:VM ids P):VG (ids,P):=by
 have hlen:=h.len
 have links:∀v,v<P.length->LinksOk (row (ids,P) v) v P.length:=by
  intro v hv i hi
  have hm:lnk (row (ids,P) v) i∈at' P (v:Int):=mem_of_at hi
  obtain⟨a1,a2,a3,_⟩:=h.lk v hv _ hm
  refine⟨a1,a2,a3,fun k hk=> ?_⟩
  have hk2:k<(row (ids,P) v).length:=by omega
  have:=List.pairwise_iff_getElem.1 (List.nodup_iff_pairwise_ne.1 (h.nd v hv)) k i (by simpa using hk2) (by simpa using hi) hk
  rw[List.getElem_map,List.getElem_map]at this
  have e:∀j (hj:j<(row (ids,P) v).length),lnk (row (ids,P) v) j=(at' P (v:Int))[j]'hj:=fun j hj=>by
   unfold lnk
   rw[at'_nat,List.getD_eq_getElem?_getD,List.getElem?_eq_getElem hj];rfl
  rw[e k hk2,e i hi]
  exact this
 refine⟨h.n1,h.n24,h.len,fun v hv=>⟨?_,deg_lt hv (links v hv),links v hv,fun k hk=> ?_⟩,fun v hv i hi=> ?_⟩
 ·exact h.ok.rng _ (mem_of_at (by dsimp only at hv ⊢;omega))
 ·exact nodup_at h.ok.nd (by dsimp only at hv ⊢;omega) (by dsimp only at hv ⊢;omega) hk
 ·have hm:lnk (row (ids,P) v) i∈at' P (v:Int):=mem_of_at hi
  obtain⟨_,_,_,a4⟩:=h.lk v hv _ hm
  obtain⟨j,hj,he⟩:=at_of_mem a4
  exact⟨j,hj,by unfold lnk;rw[he],by unfold lnk;rw[he]⟩
theorem VM.start {ids:List Int} (h:IdsOk ids) (h1:1<=ids.length) (h24:ids.length<=24):VM ids (List.replicate ids.length []):=by
 have e:∀v:Nat,at' (List.replicate ids.length ([]:List (Int×Int))) (v:Int)=[]:=fun v=>by
  rw[at'_nat,List.getD_eq_getElem?_getD,List.getElem?_replicate]
  split<;>rfl
 refine⟨by simpa using h1,by simpa using h24,by simp,h,fun v _=>by rw[e];exact List.nodup_nil,fun v _ x hx=> ?_⟩
 rw[e]at hx
 cases hx
def NextTo (P:List (List (Int×Int))) (v u:Nat):Prop:=∃x∈at' P (v:Int),x.1=(u:Int)
theorem linked_eq (ids:List Int) (P:List (List (Int×Int))) (a b:Nat) (ha:a<P.length) (hl:(at' P (a:Int)).length<=900):(NextTo P a b->m_world_linked 1000 (ids,P) a b=some true)∧(¬NextTo P a b->m_world_linked 1000 (ids,P) a b=some false):=by
 have step:∀(r:Bool),(r=true->NextTo P a b)->(r=false->¬NextTo P a b)->m_world_linked 1000 (ids,P) a b=some r:=by
  intro r ht hf
  unfold m_world_linked
  refine iter_eq (fun i:Int=>∃k:Nat,i=k∧k<=(at' P (a:Int)).length∧∀j,j<k->(at' (at' P (a:Int)) ((j:Nat):Int)).1≠(b:Int)) (fun i=>(at' P (a:Int)).length - i.toNat) ?_ 1000 0 ⟨0,rfl,by omega,fun j hj=>by omega⟩ (by omega)
  rintro i ag ⟨k,rfl,hk,hno⟩ hrec
  unfold world_linked_s1 world_linked_k1
  dsimp only
  rw[ckT (by omega)]
  by_cases hi:(k:Int)<((at' P (a:Int)).length:Int)
  ·rw[if_pos hi,ckT (by omega),ckT (by omega)]
   by_cases he:(at' (at' P (a:Int)) (k:Int)).1=(b:Int)
   ·rw[if_pos he]
    cases r with
    |true=>rfl
    |false=>exact absurd ⟨_,mem_of_at (by omega),he⟩ (hf rfl)
   ·rw[if_neg he,wr (by omega) (by omega)]
    refine hrec _ ⟨k+1,by omega,by omega,fun j hj=> ?_⟩ (by omega)
    rcases Nat.lt_succ_iff_lt_or_eq.1 hj with h|h
    ·exact hno j h
    ·subst h;exact he
  ·rw[if_neg hi]
   cases r with
   |false=>rfl
   |true=>
    obtain⟨x,hx,he⟩:=ht rfl
    obtain⟨j,hj,hje⟩:=at_of_mem hx
    exact absurd (by rw[hje];exact he) (hno j (by omega))
 exact⟨fun h=>step true (fun _=>h) (fun hc=>by cases hc),fun h=>step false (fun hc=>by cases hc) (fun _=>h)⟩
theorem at_set2 (P:List (List (Int×Int))) (a b:Nat) (x y:List (Int×Int)) (ha:a<P.length) (hb:b<P.length) (v:Nat):at' ((P.set a x).set b y) (v:Int)=if v=b then y else if v=a then x else at' P (v:Int):=by
 rw[at'_nat,at'_nat,List.getD_eq_getElem?_getD,List.getD_eq_getElem?_getD,List.getElem?_set,List.getElem?_set]
 by_cases h:v=b
 ·subst h;rw[if_pos rfl,if_pos rfl,if_pos (by simpa using hb)];rfl
 ·rw[if_neg (fun hc=>h hc.symm),if_neg h]
  by_cases h2:v=a
  ·subst h2;rw[if_pos rfl,if_pos rfl,if_pos ha];rfl
  ·rw[if_neg (fun hc=>h2 hc.symm),if_neg h2]
theorem VM.add {ids:List Int} {P:List (List (Int×Int))} (h:VM ids P) {a b:Nat} {w:Int} (ha:a<P.length) (hb:b<P.length) (hab:a≠b) (hn:¬NextTo P a b) (hw:1<=w∧w<=15)
  {x y:List (Int×Int)} (hx:x.Perm (((b:Int),w)::at' P (a:Int))) (hy:y.Perm (((a:Int),w)::at' P (b:Int))):
  VM ids ((P.set a x).set b y)∧(∀v u,NextTo P v u->NextTo ((P.set a x).set b y) v u)∧NextTo ((P.set a x).set b y) a b:=by
 have hn2:¬NextTo P b a:=by
  rintro⟨z,hz,he⟩
  obtain⟨_,_,_,hb4⟩:=h.lk b hb z hz
  rw[he]at hb4
  exact hn ⟨_,hb4,rfl⟩
 have hr:=at_set2 P a b x y ha hb
 have hL:((P.set a x).set b y).length=P.length:=by simp
 have mem:∀(v:Nat) (z:Int×Int),z∈at' ((P.set a x).set b y) (v:Int)↔z∈at' P (v:Int)∨(v=b∧z=((a:Int),w))∨(v=a∧z=((b:Int),w)):=by
  intro v z
  rw[hr v]
  by_cases h1:v=b
  ·subst h1
   rw[if_pos rfl,hy.mem_iff,List.mem_cons]
   constructor
   ·rintro(h2|h2)
    ·exact .inr (.inl ⟨rfl,h2⟩)
    ·exact .inl h2
   ·rintro(h2|⟨_,h2⟩|⟨h3,_⟩)
    ·exact .inr h2
    ·exact .inl h2
    ·exact absurd h3.symm hab
  ·rw[if_neg h1]
   by_cases h2:v=a
   ·subst h2
    rw[if_pos rfl,hx.mem_iff,List.mem_cons]
    constructor
    ·rintro(h3|h3)
     ·exact .inr (.inr ⟨rfl,h3⟩)
     ·exact .inl h3
    ·rintro(h3|⟨h4,_⟩|⟨_,h3⟩)
     ·exact .inr h3
     ·exact absurd h4 h1
     ·exact .inl h3
   ·rw[if_neg h2]
    exact⟨.inl,fun h3=>h3.elim id fun h4=>h4.elim (fun h5=>absurd h5.1 h1) fun h5=>absurd h5.1 h2⟩
 refine⟨⟨by rw[hL];exact h.n1,by rw[hL];exact h.n24,by rw[hL];exact h.len,h.ok,fun v hv=> ?_,fun v hv z hz=> ?_⟩,fun v u hvu=> ?_,?_⟩
 ·rw[hL]at hv
  rw[hr v]
  by_cases h1:v=b
  ·subst h1
   rw[if_pos rfl,(hy.map Prod.fst).nodup_iff,List.map_cons,List.nodup_cons]
   exact⟨fun hc=>by obtain⟨z,hz,he⟩:=List.mem_map.1 hc;exact hn2 ⟨z,hz,he⟩,h.nd v hv⟩
  ·rw[if_neg h1]
   by_cases h2:v=a
   ·subst h2
    rw[if_pos rfl,(hx.map Prod.fst).nodup_iff,List.map_cons,List.nodup_cons]
    exact⟨fun hc=>by obtain⟨z,hz,he⟩:=List.mem_map.1 hc;exact hn ⟨z,hz,he⟩,h.nd v hv⟩
   ·rw[if_neg h2];exact h.nd v hv
 ·rw[hL]at hv ⊢
  rcases(mem v z).1 hz with h1|⟨rfl,rfl⟩|⟨rfl,rfl⟩
  ·obtain⟨b1,b2,b3,b4⟩:=h.lk v hv z h1
   refine⟨b1,b2,b3,?_⟩
   obtain⟨u,hu⟩:∃u:Nat,z.1=u:=⟨z.1.toNat,by omega⟩
   rw[hu]at b4 ⊢
   exact(mem u _).2 (.inl b4)
  ·exact⟨by dsimp only;omega,by dsimp only;omega,hw,(mem a _).2 (.inr (.inr ⟨rfl,rfl⟩))⟩
  ·exact⟨by dsimp only;omega,by dsimp only;omega,hw,(mem b _).2 (.inr (.inl ⟨rfl,rfl⟩))⟩
 ·obtain⟨z,hz,he⟩:=hvu
  exact⟨z,(mem v z).2 (.inl hz),he⟩
 ·exact⟨_,(mem a _).2 (.inr (.inr ⟨rfl,rfl⟩)),rfl⟩
theorem link_ok (x:NETX) {ids:List Int} {P:List (List (Int×Int))} (h:VM ids P) {a b:Nat} {w:Int} (ha:a<P.length) (hb:b<P.length) (hw:1<=w∧w<=15):
  ∃P',m__world_Net__link 1000 x (ids,P) a b w=some P'∧VM ids P'∧P'.length=P.length∧(∀v u,NextTo P v u->NextTo P' v u)∧(a≠b->NextTo P' a b):=by
 have h24:=h.n24
 have dg:∀v:Nat,v<P.length->(at' P (v:Int)).length<24:=fun v hv=>by
  have:=(h.vg.node v hv).deg
  have e:(at' P (v:Int)).length=(row (ids,P) v).length:=rfl
  dsimp only at this
  omega
 have da:=dg a ha
 have db:=dg b hb
 unfold m__world_Net__link
 by_cases hab:a=b
 ·subst hab
  rw[if_pos rfl]
  exact⟨P,rfl,h,rfl,fun _ _ h=>h,fun hc=>absurd rfl hc⟩
 rw[if_neg (by omega)]
 by_cases hn:NextTo P a b
 ·rw[bindS ((linked_eq ids P a b ha (by omega)).1 hn)]
  exact⟨P,rfl,h,rfl,fun _ _ h=>h,fun _=>hn⟩
 rw[bindS ((linked_eq ids P a b ha (by omega)).2 hn)]
 unfold _world_Net__link_k1
 rw[if_neg (by simp)]
 dsimp only
 cases hbk:x.2.2.2.2.2 with
 | true =>
  rw[if_pos rfl]
  have e:at' (P.set (Int.toNat (a:Int)) ([((b:Int),w)]++at' P (a:Int))) (b:Int)=at' P (b:Int):=by
   rw[at'_nat,List.getD_eq_getElem?_getD,List.getElem?_set,if_neg (by simpa using hab),at'_nat,List.getD_eq_getElem?_getD]
  rw[e]
  rw[ckT (by omega),ckT (by simp;omega),ckT (by omega),ckT (by simp;omega),ckT (by simp;omega),ckT (by simp;omega)]
  obtain⟨h1,h2,h3⟩:=h.add ha hb hab hn hw (List.Perm.refl _) (List.Perm.refl _)
  exact⟨_,rfl,h1,by simp,h2,fun _=>h3⟩
 |false=>
  rw[if_neg (by simp)]
  rw[ckT (by omega),ckT (by omega),ckT (by simp;omega),ckT (by simp;omega),ckT (by simpa using hab),ckT (by simp;omega),ckT (by simp;omega)]
  obtain⟨h1,h2,h3⟩:=h.add ha hb hab hn hw (x:=at' P (a:Int)++[((b:Int),w)]) (y:=at' P (b:Int)++[((a:Int),w)]) List.perm_append_comm List.perm_append_comm
  exact⟨_,rfl,h1,by simp,h2,fun _=>h3⟩
theorem weight_ok (v:Int):wI .i64 (1+v%15)=1+v%15∧1<=1+v%15∧1+v%15<=15:=by
 have:=Int.emod_nonneg v (show(15:Int)≠0 by decide)
 have:=Int.emod_lt_of_pos v (show(0:Int)<15 by decide)
 exact⟨wr (by omega) (by omega),by omega,by omega⟩

theorem tree_ok (x:NETX) (most:Nat) (h1:1<=most) (h24:most<=24):
  OK (fun g:GR=>VM g.1 g.2∧g.2.length<=most∧∀v:Nat,1<=v->v<g.2.length->∃u:Nat,u<v∧NextTo g.2 u v) (m__world_Net__Tree 1000 x (most:Int)):=by
 unfold m__world_Net__Tree
 obtain⟨⟨ids,P0⟩,e0,hid,hP,hn1,hn2⟩:=nodes_ok x most h1 h24
 dsimp only at hP hid hn1 hn2
 rw[bindS e0]
 dsimp only
 subst hP
 have hst:=VM.start hid hn1 (by omega)
 refine iter_ok (fun s:Int×List (List (Int×Int))=>∃k:Nat,s.1=k∧1<=k∧k<=ids.length∧VM ids s.2∧s.2.length=ids.length∧∀v:Nat,1<=v->v<k->∃u:Nat,u<v∧NextTo s.2 u v) (fun s=>ids.length - s.1.toNat) ?_ 1000 _ ⟨1,rfl,by omega,hn1,hst,by simp,fun v hv hv2=>by omega⟩ (by dsimp only;omega)
 rintro⟨i,P⟩ ag ⟨k,hk,hk1,hk2,hV,hL,hT⟩ hrec
 dsimp only at hk hV hL hT
 subst hk
 unfold _world_Net__Tree_s1 _world_Net__Tree_k1
 dsimp only
 by_cases hi:(k:Int)<(P.length:Int)
 ·rw[if_pos hi,wr (by omega) (by omega),bindS (at_eq _ _ (by omega)),bindS (within_eq _ _ (by omega) (by omega)),bindS (at_eq _ _ (by omega)),bindS (within_eq _ _ (by decide) (by decide))]
  obtain⟨w1,w2,w3⟩:=weight_ok (at' x.2.2.1 ((k:Int) - 1))
  rw[w1]
  generalize hu:at' x.2.1 ((k:Int) - 1)%(k:Int)=u
  have u0:0<=u:=by rw[<-hu];exact Int.emod_nonneg _ (by omega)
  have u1:u<k:=by rw[<-hu];exact Int.emod_lt_of_pos _ (by omega)
  obtain⟨u,rfl⟩:∃n:Nat,u=n:=⟨u.toNat,by omega⟩
  obtain⟨P',e1,v1,v2,v3,v4⟩:=link_ok x hV (a:=u) (b:=k) (by omega) (by omega) ⟨w2,w3⟩
  rw[bindS e1,wr (by omega) (by omega)]
  refine hrec _ ⟨k+1,by dsimp only;omega,by omega,by omega,v1,by dsimp only;omega,fun v hv hv2=> ?_⟩ (by dsimp only;omega)
  by_cases hvk:v=k
  ·subst hvk;exact⟨u,by omega,v4 (by omega)⟩
  ·obtain⟨u',hu1,hu2⟩:=hT v hv (by omega)
   exact⟨u',hu1,v3 _ _ hu2⟩
 ·rw[if_neg hi]
  exact⟨_,rfl,hV,by dsimp only;omega,fun v hv hv2=>hT v hv (by dsimp only at hv2;omega)⟩
theorem more_ok (x:NETX) {ids:List Int} {P:List (List (Int×Int))} (h:VM ids P):OK (fun g:GR=>VM g.1 g.2∧g.1=ids∧g.2.length=P.length∧∀v u,NextTo P v u->NextTo g.2 v u) (m__world_Net__more 1000 x (ids,P)):=by
 unfold m__world_Net__more
 have h24:=h.n24
 have hp1:=h.n1
 refine iter_ok (fun s:Int×List (List (Int×Int))=>∃k:Nat,s.1=k∧k<=100∧VM ids s.2∧s.2.length=P.length∧∀v u,NextTo P v u->NextTo s.2 v u) (fun s=>200 - s.1.toNat) ?_ 1000 _ ⟨P.length,rfl,by omega,h,rfl,fun _ _ h=>h⟩ (by dsimp only;omega)
 rintro⟨i,Q⟩ ag ⟨k,hk,hk2,hV,hL,hN⟩ hrec
 dsimp only at hk hV hL hN
 subst hk
 have done:∀b:Bool,b=false->OK (fun g:GR=>VM g.1 g.2∧g.1=ids∧g.2.length=P.length∧∀v u,NextTo P v u->NextTo g.2 v u) (_world_Net__more_k2 1000 x (ids,P) ((k:Int),Q) ag b):=by
  rintro b rfl
  exact⟨_,rfl,hV,rfl,hL,hN⟩
 unfold _world_Net__more_s1
 dsimp only
 rw[wr (by omega) (by omega)]
 by_cases h1:(k:Int)+1<(x.2.1.length:Int)
 rotate_left
 ·rw[if_neg h1];exact done _ rfl
 rw[if_pos h1]
 by_cases h2:(k:Int)<60
 rotate_left
 ·exact done _ (decide_eq_false h2)
 rw[decide_eq_true h2]
 unfold _world_Net__more_k2
 dsimp only
 rw[if_pos rfl,ckT (by omega),bindS (within_eq _ _ (by omega) (by omega)),wr (by omega) (by omega),ckT (by omega),bindS (within_eq _ _ (by omega) (by omega)),bindS (at_eq _ _ (by omega)),bindS (within_eq _ _ (by decide) (by decide))]
 obtain⟨w1,w2,w3⟩:=weight_ok (at' x.2.2.1 (k:Int))
 rw[w1]
 generalize hu:at' x.2.1 (k:Int)%(P.length:Int)=u
 have u0:0<=u:=by rw[<-hu];exact Int.emod_nonneg _ (by omega)
 have u1:u<P.length:=by rw[<-hu];exact Int.emod_lt_of_pos _ (by omega)
 obtain⟨u,rfl⟩:∃n:Nat,u=n:=⟨u.toNat,by omega⟩
 generalize ht:at' x.2.1 ((k:Int)+1)%(P.length:Int)=t
 have t0:0<=t:=by rw[<-ht];exact Int.emod_nonneg _ (by omega)
 have t1:t<P.length:=by rw[<-ht];exact Int.emod_lt_of_pos _ (by omega)
 obtain⟨t,rfl⟩:∃n:Nat,t=n:=⟨t.toNat,by omega⟩
 obtain⟨P',e1,v1,v2,v3,v4⟩:=link_ok x hV (a:=u) (b:=t) (by omega) (by omega) ⟨w2,w3⟩
 rw[bindS e1,wr (by omega) (by omega)]
 exact hrec _ ⟨k+2,by dsimp only;omega,by omega,v1,by dsimp only;omega,fun v u hvu=>v3 _ _ (hN v u hvu)⟩ (by dsimp only;omega)
theorem connected_ok (x:NETX) (most:Nat) (h1:1<=most) (h24:most<=24):
  OK (fun g:GR=>VM g.1 g.2∧g.2.length<=most∧∀v:Nat,1<=v->v<g.2.length->∃u:Nat,u<v∧NextTo g.2 u v) (m__world_Net__Connected 1000 x (most:Int)):=by
 unfold m__world_Net__Connected
 obtain⟨⟨ids,P⟩,e0,hV,hL,hT⟩:=tree_ok x most h1 h24
 obtain⟨⟨ids',P'⟩,e1,hV',hi,hL',hN⟩:=more_ok x hV
 rw[bindS e0,bindS e1]
 dsimp only at hL hT hV' hi hL' hN
 refine⟨_,rfl,hV',by dsimp only;omega,fun v hv hv2=> ?_⟩
 obtain⟨u,hu,hu2⟩:=hT v hv (by dsimp only at hv2;omega)
 exact⟨u,hu,hN _ _ hu2⟩
theorem any_ok (x:NETX) (most:Nat) (h1:1<=most) (h24:most<=24):OK (fun g:GR=>VM g.1 g.2∧g.2.length<=most) (m__world_Net__Any 1000 x (most:Int)):=by
 unfold m__world_Net__Any
 cases hb:x.2.2.2.2.1 with
 |false=>
  obtain⟨⟨ids,P⟩,e0,hV,hL,_⟩:=connected_ok x most h1 h24
  rw[if_pos (by rfl)]
  rw[<-hb]at *
  rw[bindS e0]
  exact⟨_,rfl,hV,hL⟩
 |true=>
  obtain⟨⟨ids,P⟩,e0,hid,hP,hn1,hn2⟩:=nodes_ok x most h1 h24
  dsimp only at hP hid hn1 hn2
  subst hP
  obtain⟨⟨ids',P'⟩,e1,hV',hi,hL',hN⟩:=more_ok x (VM.start hid hn1 (by omega))
  dsimp only at hV' hi hL' hN
  rw[if_neg (by simp)]
  rw[<-hb]at *
  rw[bindS e0,bindS e1]
  exact⟨_,rfl,hV',by simp at hL' ⊢;omega⟩
end Go.Proofs.YtfimaabbclepbaaGreat
end
section
namespace Go.Proofs.YtfimaabbclepbaaGreat
open Go.Sx
def world_Config_k2  (a8:List (List (Int))):Option (List (List (Int))):=
 some (a8)
def world_Config_k3 (a15:List (List (Int))×Int) (ag14:(List (List (Int))×Int)->Option (List (List (Int)))) (a21:List (Int)):Option (List (List (Int))):=
 ck ((List.length a15.1:Int)+(List.length ([a21]):Int)<=1099511627) (ag14 ((a15.1++[a21]),(wI .i64 (a15.2+(1:Int)))))
def world_Config_k4 (fuel:Nat) (p1:List (ByteArray×Int×Int×Int×Int×Int)) (p2:List (Int)) (a15:List (List (Int))×Int) (a33:List (Int)×Int) (ag32:(List (Int)×Int)->Option (List (List (Int)))) (a43:Int×Int):Option (List (List (Int))):=
 Option.bind (m_world_at fuel p2 (wI .i64 ((wI .i64 (a15.2*(List.length p1:Int)))+a33.2))) fun r45=>(Option.bind (m_world_Within fuel r45 (wI .i64 ((wI .i64 (a43.2 - a43.1))+(1:Int)))) fun r48=>(ck ((List.length a33.1:Int)+(List.length ([(wI .i64 (a43.1+r48))]):Int)<=1099511627) (ag32 ((a33.1++([(wI .i64 (a43.1+r48))])),(wI .i64 (a33.2+(1:Int)))))))
def world_Config_s2 (fuel:Nat) (p0:List (Int)×(List (List (Int×Int)))) (p1:List (ByteArray×Int×Int×Int×Int×Int)) (p2:List (Int)) (a3:Int) (a15:List (List (Int))×Int) (ag14:(List (List (Int))×Int)->Option (List (List (Int)))) (a33:List (Int)×Int) (ag32:(List (Int)×Int)->Option (List (List (Int)))):Option (List (List (Int))):=
 if a33.2<(List.length p1:Int)then(ck (0<=a33.2∧a33.2<(List.length p1:Int)) (ck (0<=a33.2∧a33.2<(List.length p1:Int)) (ck (0<=a33.2∧a33.2<(List.length p1:Int)) (ck (0<=a33.2∧a33.2<(List.length p1:Int)) (ck (0<=a33.2∧a33.2<(List.length p1:Int)) (if((at' p1 a33.2).2.1)=(2:Int)then(world_Config_k4 fuel p1 p2 a15 a33 ag32 ((0:Int),(1:Int)))else(if((at' p1 a33.2).2.1)=(3:Int)then(ck (0<=a15.2∧a15.2<(List.length p0.2:Int)) (world_Config_k4 fuel p1 p2 a15 a33 ag32 ((-1:Int),(wI .i64 ((List.length (at' p0.2 a15.2):Int) - (1:Int))))))else(world_Config_k4 fuel p1 p2 a15 a33 ag32 (((at' p1 a33.2).2.2.1),(wI .i64 ((wI .i64 (((at' p1 a33.2).2.2.2.1)+(wI .i64 (((at' p1 a33.2).2.2.2.2.1)*(List.length p0.2:Int)))))+(wI .i64 (((at' p1 a33.2).2.2.2.2.2)*a3)))))))))))))else(world_Config_k3 a15 ag14 (a33.1))
def world_Config_s1 (fuel:Nat) (p0:List (Int)×(List (List (Int×Int)))) (p1:List (ByteArray×Int×Int×Int×Int×Int)) (p2:List (Int)) (a3:Int) (a15:List (List (Int))×Int) (ag14:(List (List (Int))×Int)->Option (List (List (Int)))):Option (List (List (Int))):=
 if a15.2<(List.length p0.2:Int)then(iter (world_Config_s2 fuel p0 p1 p2 a3 a15 ag14) fuel (([]:List Int),(0:Int)))else(world_Config_k2  (a15.1))
def world_Config_k1 (fuel:Nat) (p0:List (Int)×(List (List (Int×Int)))) (p1:List (ByteArray×Int×Int×Int×Int×Int)) (p2:List (Int)) (a3:Int):Option (List (List (Int))):=
 iter (world_Config_s1 fuel p0 p1 p2 a3) fuel (([]:List (List Int)),(0:Int))
def world_Config_s3 (fuel:Nat) (p0:List (Int)×(List (List (Int×Int)))) (p1:List (ByteArray×Int×Int×Int×Int×Int)) (p2:List (Int)) (a61:Int×Int) (ag60:(Int×Int)->Option (List (List (Int)))):Option (List (List (Int))):=
 if a61.2<(List.length p0.2:Int)then(ck (0<=a61.2∧a61.2<(List.length p0.1:Int)) (ag60 ((max a61.1 (at' p0.1 a61.2)),(wI .i64 (a61.2+(1:Int))))))else(world_Config_k1 fuel p0 p1 p2 (a61.1))
def m_world_Config (fuel:Nat) (p0:List (Int)×(List (List (Int×Int)))) (p1:List (ByteArray×Int×Int×Int×Int×Int)) (p2:List (Int)):Option (List (List (Int))):=
 iter (world_Config_s3 fuel p0 p1 p2) fuel ((0:Int),(0:Int))
theorem body14:HasBody Tryz.prog 14:=Tryz.call14
theorem t_world_Config (fuel:Nat) {p0:List (Int)×(List (List (Int×Int)))} {p1:List (ByteArray×Int×Int×Int×Int×Int)} {p2:List (Int)} (v0:Value)  (v1:Value)  (z2:List (Value×List (Int×Int)))  (v3:Value)  (v4:Value) (r:List (List (Int))) (h:m_world_Config fuel p0 p1 p2=some r):
  Meets Tryz.prog 14 #[Value.agg #[v0,v1],v3,v4] [Sl RI64 v0 p0.1,S2 RI64I64p v1 z2 p0.2,Sl RStI64I64I64I64I64p v3 p1,Sl RI64 v4 p2] (fun x:Value×List Value=>x.1) (fun x l=>Ar Enc.raw x.1 x.2::Rws EI64 x.2 r::l) (fun _ l=>l):=by
 refine Meets.of (vs:=[Value.agg #[v0,v1],v3,v4]) Tryz.func14 rfl Tryz.ntmps14 rfl fun c=> ?_
 unfold m_world_Config at h
 refine J.seq<|J.region<|J.loud (Loud.box (cs:=[v0,v1]) rfl rfl) rfl fun b1=>J.quiet (Y.assign rfl) rfl<|J.done<|J.thenN<|J.seq<|J.region<|J.quiet (Y.fieldB rfl rfl rfl rfl rfl) rfl<|J.quiet (Y.loadB 0 rfl rfl rfl rfl rfl) rfl<|J.quiet (Y.lenN rfl (Lent.fact 1 rfl) rfl) rfl<|J.quiet (Y.assign rfl) rfl<|J.quiet (Y.assign rfl) rfl<|J.done<|J.thenN<|J.seq<|J.midI (A:=Int) (B:=Unit) (fun a3=>world_Config_k1 fuel p0 p1 p2 a3=some r) (fun a3 b4=>[(1,v3),(2,v4),(3,Value.pointer (some ⟨b1,0,none⟩)),(7,Value.int .i64 (List.length p0.2:Int)),(8,Value.int .i64 (a3))]) (fun a3 b4=>[Blk b1 [v0,v1] 25]) (fun a3 b4=>[Sl RI64 v0 p0.1,S2 RI64I64p v1 z2 p0.2,Sl RStI64I64I64I64I64p v3 p1,Sl RI64 v4 p2]) ?_ ?_
 ·refine J.seq<|J.region<|J.quiet (Y.assign rfl) rfl<|J.done<|J.thenN<|J.block<|J.loopI (A:=Int×Int) (B:=Unit) (world_Config_s3 fuel p0 p1 p2) (fun a61 b62=>[(1,v3),(2,v4),(3,Value.pointer (some ⟨b1,0,none⟩)),(7,Value.int .i64 (List.length p0.2:Int)),(8,Value.int .i64 (a61.1)),(9,Value.int .i64 (a61.2))]) (fun a61 b62=>[Blk b1 [v0,v1] 25]) (fun a61 b62=>[Sl RI64 v0 p0.1,S2 RI64I64p v1 z2 p0.2,Sl RStI64I64I64I64I64p v3 p1,Sl RI64 v4 p2]) ((0:Int),(0:Int)) (()) h SF (SubM.refl _) (LentAll.refl _ _) ?_
  clear h
  intro k63 a61 b62 h
  unfold world_Config_s3 at h
  refine J.seq<|J.seq<|J.region<|J.quiet (Y.move rfl) rfl<|J.quiet (Y.move rfl) rfl<|J.quiet (Y.lss rfl rfl) rfl<|J.done<|J.thenN ?_
  refine J.condD (by exact rfl) (fun hp64=> ?_) (fun hp64=> ?_)
  ·have h:=ifP hp64 h
   refine J.skip<|J.thenN<|J.seq<|J.block<|J.region<|J.quiet (Y.move rfl) rfl<|J.quiet (Y.fieldB rfl rfl rfl rfl rfl) rfl<|J.quiet (Y.loadB 0 rfl rfl rfl rfl rfl) rfl<|J.quiet (Y.move rfl) rfl ?_
   have h:=ck_some h;obtain⟨hc65,h⟩:=h
   refine J.quiet (Y.indexS rfl rfl (Lent.fact 0 rfl) rfl rfl hc65) rfl<|J.quiet (Y.loadS0 rfl (Lent.fact 0 rfl) rfl rfl rfl RI64c0 hc65) rfl<|J.quiet (Y.max rfl rfl) rfl<|J.quiet (Y.assign rfl) rfl<|J.done<|J.inN<|J.thenN<|J.region<|J.quiet (Y.move rfl) rfl<|J.quiet (Y.addW rfl rfl) rfl<|J.quiet (Y.assign rfl) rfl<|J.done<|J.thenN ?_
   exact J.againI ((max a61.1 (at' p0.1 a61.2)),(wI .i64 (a61.2+(1:Int)))) (()) h SF (SubM.refl _) (LentAll.refl _ _)
  ·have h:=ifN hp64 h
   refine J.exit<|J.thenX<|J.thenX<|J.inX<|J.thenN ?_
   exact J.meetI (a61.1) (()) h SF (SubM.refl _) (LentAll.refl _ _)
 ·clear h
  intro a3 b4 h
  unfold world_Config_k1 at h
  refine J.seq<|J.region<|J.quiet (Y.assign rfl) rfl<|J.done<|J.thenN<|J.seq<|J.midI (A:=List (List (Int))) (B:=Value×List Value) (fun a8=>world_Config_k2  a8=some r) (fun a8 b9=>[(10,b9.1)]) (fun a8 b9=>[Ar Enc.raw b9.1 b9.2,Rws EI64 b9.2 a8]) (fun a8 b9=>[Sl RI64 v0 p0.1,S2 RI64I64p v1 z2 p0.2,Sl RStI64I64I64I64I64p v3 p1,Sl RI64 v4 p2]) ?_ ?_
  ·refine J.seq<|J.region<|J.quiet (Y.assign rfl) rfl<|J.done<|J.thenN<|J.block<|J.stp (Stp.nilAr Enc.raw) (J.stp (Stp.rowsNil EI64) ?_)
   refine J.loopI (A:=List (List (Int))×Int) (B:=Value×List Value) (world_Config_s1 fuel p0 p1 p2 a3) (fun a15 b16=>[(1,v3),(2,v4),(3,Value.pointer (some ⟨b1,0,none⟩)),(7,Value.int .i64 (List.length p0.2:Int)),(8,Value.int .i64 (a3)),(10,b16.1),(11,Value.int .i64 (a15.2))]) (fun a15 b16=>[Blk b1 [v0,v1] 25,Ar Enc.raw b16.1 b16.2,Rws EI64 b16.2 a15.1]) (fun a15 b16=>[Sl RI64 v0 p0.1,S2 RI64I64p v1 z2 p0.2,Sl RStI64I64I64I64I64p v3 p1,Sl RI64 v4 p2]) (([]:List (List Int)),(0:Int)) ((Value.slice none 0 0),([]:List Value)) h SF (SubM.cons 2 rfl (SubM.cons 1 rfl (SubM.cons 0 rfl (SubM.nil)))) (LentAll.refl _ _) ?_
   clear h
   intro k17 a15 b16 h
   unfold world_Config_s1 at h
   refine J.seq<|J.seq<|J.region<|J.quiet (Y.move rfl) rfl<|J.quiet (Y.move rfl) rfl<|J.quiet (Y.lss rfl rfl) rfl<|J.done<|J.thenN ?_
   refine J.condD (by exact rfl) (fun hp18=> ?_) (fun hp18=> ?_)
   ·have h:=ifP hp18 h
    refine J.skip<|J.thenN<|J.seq<|J.block<|J.seq<|J.region<|J.quiet (Y.assign rfl) rfl<|J.done<|J.thenN<|J.seq<|J.midI (A:=List (Int)) (B:=Value) (fun a21=>world_Config_k3 a15 (iter (world_Config_s1 fuel p0 p1 p2 a3) k17) a21=some r) (fun a21 b22=>[(1,v3),(2,v4),(3,Value.pointer (some ⟨b1,0,none⟩)),(7,Value.int .i64 (List.length p0.2:Int)),(8,Value.int .i64 (a3)),(10,b16.1),(11,Value.int .i64 (a15.2)),(12,b22)]) (fun a21 b22=>[Blk b1 [v0,v1] 25,Ar Enc.raw b16.1 b16.2,Rws EI64 b16.2 a15.1,Ar EI64 b22 a21]) (fun a21 b22=>[Sl RI64 v0 p0.1,S2 RI64I64p v1 z2 p0.2,Sl RStI64I64I64I64I64p v3 p1,Sl RI64 v4 p2]) ?_ ?_
    ·refine J.seq<|J.region<|J.quiet (Y.assign rfl) rfl<|J.done<|J.thenN<|J.block<|J.stp (Stp.nilAr EI64)<|J.loopI (A:=List (Int)×Int) (B:=Value) (world_Config_s2 fuel p0 p1 p2 a3 a15 (iter (world_Config_s1 fuel p0 p1 p2 a3) k17)) (fun a33 b34=>[(1,v3),(2,v4),(3,Value.pointer (some ⟨b1,0,none⟩)),(7,Value.int .i64 (List.length p0.2:Int)),(8,Value.int .i64 (a3)),(10,b16.1),(11,Value.int .i64 (a15.2)),(12,b34),(13,Value.int .i64 (a33.2))]) (fun a33 b34=>[Blk b1 [v0,v1] 25,Ar Enc.raw b16.1 b16.2,Rws EI64 b16.2 a15.1,Ar EI64 b34 a33.1]) (fun a33 b34=>[Sl RI64 v0 p0.1,S2 RI64I64p v1 z2 p0.2,Sl RStI64I64I64I64I64p v3 p1,Sl RI64 v4 p2]) (([]:List Int),(0:Int)) (Value.slice none 0 0) h SF (SubM.cons 1 rfl (SubM.cons 1 rfl (SubM.cons 1 rfl (SubM.cons 0 rfl (SubM.nil))))) (LentAll.refl _ _) ?_
     clear h
     intro k35 a33 b34 h
     unfold world_Config_s2 at h
     refine J.seq<|J.seq<|J.region<|J.quiet (Y.move rfl) rfl<|J.quiet (Y.move rfl) rfl<|J.quiet (Y.lenS rfl (Lent.fact 2 rfl) rfl) rfl<|J.quiet (Y.lss rfl rfl) rfl<|J.done<|J.thenN ?_
     refine J.condD (by exact rfl) (fun hp36=> ?_) (fun hp36=> ?_)
     ·have h:=ifP hp36 h
      refine J.skip<|J.thenN<|J.seq<|J.block<|J.seq ?_
      refine JR.start [0,0,3,7,15,0,0,96,224,480,0,0,3072,7168,15360,0,64512,131040,0,0,786432,1835008,3932160,0,16515072,33554400,31,134217727] 27 mixedOrders (by decide +kernel) ?_
      refine JR.open (by exact rfl) ?_
      refine JR.qt rfl (SubM.nil) (SubL.nil) (Y.move rfl) HistOk.z<|JR.qt rfl (SubM.nil) (SubL.nil) (Y.move rfl) HistOk.z ?_
      have h:=ck_some h;obtain⟨hc37,h⟩:=h
      refine JR.qt rfl (SubM.nil) (SubL.cons (List.mem_of_getElem? (i:=2) rfl) (SubL.nil)) (Y.indexS rfl rfl (Lent.fact 0 rfl) rfl rfl hc37) HistOk.z<|JR.qt rfl (SubM.nil) (SubL.nil) (Y.fieldEl rfl rfl rfl rfl rfl) HistOk.z<|JR.qt rfl (SubM.nil) (SubL.cons (List.mem_of_getElem? (i:=2) rfl) (SubL.nil)) (Y.loadS rfl (Lent.fact 0 rfl) rfl rfl rfl RStI64I64I64I64I64pc2 hc37) HistOk.z<|JR.qt rfl (SubM.nil) (SubL.nil) (Y.move rfl) HistOk.z<|JR.qt rfl (SubM.nil) (SubL.nil) (Y.move rfl) HistOk.z ?_
      have h:=ck_some h;obtain⟨hc38,h⟩:=h
      refine JR.qt rfl (SubM.nil) (SubL.cons (List.mem_of_getElem? (i:=2) rfl) (SubL.nil)) (Y.indexS rfl rfl (Lent.fact 0 rfl) rfl rfl hc38) HistOk.z<|JR.qt rfl (SubM.nil) (SubL.nil) (Y.fieldEl rfl rfl rfl rfl rfl) HistOk.z<|JR.qt rfl (SubM.nil) (SubL.cons (List.mem_of_getElem? (i:=2) rfl) (SubL.nil)) (Y.loadS rfl (Lent.fact 0 rfl) rfl rfl rfl RStI64I64I64I64I64pc3 hc38) HistOk.z<|JR.qt rfl (SubM.nil) (SubL.nil) (Y.move rfl) HistOk.z<|JR.qt rfl (SubM.nil) (SubL.nil) (Y.move rfl) HistOk.z ?_
      have h:=ck_some h;obtain⟨hc39,h⟩:=h
      refine JR.qt rfl (SubM.nil) (SubL.cons (List.mem_of_getElem? (i:=2) rfl) (SubL.nil)) (Y.indexS rfl rfl (Lent.fact 0 rfl) rfl rfl hc39) HistOk.z<|JR.qt rfl (SubM.nil) (SubL.nil) (Y.fieldEl rfl rfl rfl rfl rfl) HistOk.z<|JR.qt rfl (SubM.nil) (SubL.cons (List.mem_of_getElem? (i:=2) rfl) (SubL.nil)) (Y.loadS rfl (Lent.fact 0 rfl) rfl rfl rfl RStI64I64I64I64I64pc4 hc39) HistOk.z<|JR.qt rfl (SubM.nil) (SubL.nil) (Y.move rfl) HistOk.z<|JR.qt rfl (SubM.nil) (SubL.nil) (Y.mulW rfl rfl) HistOk.z<|JR.qt rfl (SubM.nil) (SubL.nil) (Y.addW rfl rfl) HistOk.z<|JR.qt rfl (SubM.nil) (SubL.nil) (Y.move rfl) HistOk.z<|JR.qt rfl (SubM.nil) (SubL.nil) (Y.move rfl) HistOk.z ?_
      have h:=ck_some h;obtain⟨hc40,h⟩:=h
      refine JR.qt rfl (SubM.nil) (SubL.cons (List.mem_of_getElem? (i:=2) rfl) (SubL.nil)) (Y.indexS rfl rfl (Lent.fact 0 rfl) rfl rfl hc40) HistOk.z<|JR.qt rfl (SubM.nil) (SubL.nil) (Y.fieldEl rfl rfl rfl rfl rfl) HistOk.z<|JR.qt rfl (SubM.nil) (SubL.cons (List.mem_of_getElem? (i:=2) rfl) (SubL.nil)) (Y.loadS rfl (Lent.fact 0 rfl) rfl rfl rfl RStI64I64I64I64I64pc5 hc40) HistOk.z<|JR.qt rfl (SubM.nil) (SubL.nil) (Y.move rfl) HistOk.z<|JR.qt rfl (SubM.nil) (SubL.nil) (Y.mulW rfl rfl) HistOk.z<|JR.qt rfl (SubM.nil) (SubL.nil) (Y.addW rfl rfl) HistOk.z<|JR.qt rfl (SubM.nil) (SubL.nil) (Y.assign rfl) HistOk.z<|JR.tailD 27 rfl rfl<|J.quiet (Y.assign rfl) rfl<|J.done<|J.thenN<|J.seq<|J.midI (A:=Int×Int) (B:=Unit) (fun a43=>world_Config_k4 fuel p1 p2 a15 a33 (iter (world_Config_s2 fuel p0 p1 p2 a3 a15 (iter (world_Config_s1 fuel p0 p1 p2 a3) k17)) k35) a43=some r) (fun a43 b44=>[(1,v3),(2,v4),(3,Value.pointer (some ⟨b1,0,none⟩)),(7,Value.int .i64 (List.length p0.2:Int)),(8,Value.int .i64 (a3)),(10,b16.1),(11,Value.int .i64 (a15.2)),(12,b34),(13,Value.int .i64 (a33.2)),(14,Value.int .i64 (a43.1)),(15,Value.int .i64 (a43.2))]) (fun a43 b44=>[Blk b1 [v0,v1] 25,Ar Enc.raw b16.1 b16.2,Rws EI64 b16.2 a15.1,Ar EI64 b34 a33.1]) (fun a43 b44=>[Sl RI64 v0 p0.1,S2 RI64I64p v1 z2 p0.2,Sl RStI64I64I64I64I64p v3 p1,Sl RI64 v4 p2]) ?_ ?_
      ·refine J.seq<|J.region<|J.quiet (Y.move rfl) rfl<|J.quiet (Y.move rfl) rfl ?_
       have h:=ck_some h;obtain⟨hc54,h⟩:=h
       refine J.quiet (Y.indexS rfl rfl (Lent.fact 2 rfl) rfl rfl hc54) rfl<|J.quiet (Y.fieldEl rfl rfl rfl rfl rfl) rfl<|J.quiet (Y.loadS rfl (Lent.fact 2 rfl) rfl rfl rfl RStI64I64I64I64I64pc1 hc54) rfl<|J.done<|J.thenN<|J.block<|J.seq<|J.region<|J.quiet (Y.eql rfl rfl) rfl<|J.quiet (Y.assign rfl) rfl<|J.done<|J.thenN ?_
       refine J.condD (by exact rfl) (fun hp55=> ?_) (fun hp55=> ?_)
       ·have h:=ifP hp55 h
        refine J.region<|J.quiet (Y.assign rfl) rfl<|J.quiet (Y.assign rfl) rfl<|J.done<|J.inN<|J.thenN ?_
        exact J.meetI ((0:Int),(1:Int)) (()) h SF (SubM.refl _) (LentAll.refl _ _)
       ·have h:=ifN hp55 h
        refine J.seq<|J.region<|J.quiet (Y.eql rfl rfl) rfl<|J.quiet (Y.assign rfl) rfl<|J.done<|J.thenN ?_
        refine J.condD (by exact rfl) (fun hp56=> ?_) (fun hp56=> ?_)
        ·have h:=ifP hp56 h
         refine JR.start [0,1,0,7,15,31,63,0,255] 8 mixedOrders (by decide +kernel) ?_
         refine JR.open (by exact rfl) ?_
         refine JR.qt rfl (SubM.nil) (SubL.nil) (Y.fieldB rfl rfl rfl rfl rfl) HistOk.z<|JR.qt rfl (SubM.cons 0 rfl (SubM.nil)) (SubL.nil) (Y.loadB 0 rfl rfl rfl rfl rfl) HistOk.z<|JR.qt rfl (SubM.nil) (SubL.nil) (Y.move rfl) HistOk.z ?_
         have h:=ck_some h;obtain⟨hc57,h⟩:=h
         refine JR.qt rfl (SubM.nil) (SubL.cons (List.mem_of_getElem? (i:=1) rfl) (SubL.nil)) (Y.indexN rfl rfl (Lent.fact 0 rfl) rfl rfl hc57) HistOk.z<|JR.qt rfl (SubM.nil) (SubL.cons (List.mem_of_getElem? (i:=1) rfl) (SubL.nil)) (Y.loadRow rfl (Lent.fact 0 rfl) rfl rfl hc57) HistOk.z<|JR.qt rfl (SubM.nil) (SubL.cons (List.mem_of_getElem? (i:=1) rfl) (SubL.nil)) (Y.lenS rfl (Lent.el (Lent.fact 0 rfl) hc57.1 hc57.2) rfl) HistOk.z<|JR.qt rfl (SubM.nil) (SubL.nil) (Y.subW rfl rfl) HistOk.z<|JR.qt rfl (SubM.nil) (SubL.nil) (Y.assign rfl) HistOk.z<|JR.tailD 8 rfl rfl<|J.quiet (Y.assign rfl) rfl<|J.done<|J.inN<|J.thenN ?_
         exact J.meetI ((-1:Int),(wI .i64 ((List.length (at' p0.2 a15.2):Int) - (1:Int)))) (()) h SF (SubM.refl _) (LentAll.refl _ _)
        ·have h:=ifN hp56 h
         refine J.skip<|J.inN<|J.thenN ?_
         exact J.meetI (((at' p1 a33.2).2.2.1),(wI .i64 ((wI .i64 (((at' p1 a33.2).2.2.2.1)+(wI .i64 (((at' p1 a33.2).2.2.2.2.1)*(List.length p0.2:Int)))))+(wI .i64 (((at' p1 a33.2).2.2.2.2.2)*a3))))) (()) h SF (SubM.refl _) (LentAll.refl _ _)
      ·clear h
       intro a43 b44 h
       unfold world_Config_k4 at h
       refine J.region<|J.quiet (Y.move rfl) rfl<|J.quiet (Y.move rfl) rfl<|J.quiet (Y.move rfl) rfl<|J.quiet (Y.move rfl) rfl<|J.quiet (Y.move rfl) rfl<|J.quiet (Y.lenS rfl (Lent.fact 2 rfl) rfl) rfl<|J.quiet (Y.mulW rfl rfl) rfl<|J.quiet (Y.move rfl) rfl<|J.quiet (Y.addW rfl rfl) rfl ?_
       have h:=bnd h;obtain⟨r45,hr46,h⟩:=h
       refine J.loud (Loud.callL body39 (t_world_at fuel v4 r45 hr46) rfl (LentAll.cons (Lent.fact 3 rfl) .nil) (fun _ _=>rfl)) rfl fun x47=>J.quiet (Y.move rfl) rfl<|J.quiet (Y.move rfl) rfl<|J.quiet (Y.subW rfl rfl) rfl<|J.quiet (Y.addW rfl rfl) rfl ?_
       have h:=bnd h;obtain⟨r48,hr49,h⟩:=h
       refine J.loud (Loud.callL body38 (t_world_Within fuel  r48 hr49) rfl .nil (fun _ _=>rfl)) rfl fun x50=>J.quiet (Y.addW rfl rfl) rfl<|J.loud (Loud.buildS (e:=EI64) ([(wI .i64 (a43.1+r48))]) [(0,Value.int .i64 (wI .i64 (a43.1+r48)))] rfl rfl rfl rfl (fill_1_1 (Value.int .i64 (wI .i64 (a43.1+r48))) rfl) rfl rfl rfl) rfl fun u51=> ?_
       have h:=ck_some h;obtain⟨hc53,h⟩:=h
       refine J.loud (Loud.appendL 4 FI64 rfl rfl rfl (Lent.ar (Lent.res 0 rfl) FI64) rfl rfl rfl rfl hc53 rfl) rfl fun u52=>J.quiet (Y.assign rfl) rfl<|J.done<|J.inN<|J.thenN<|J.region<|J.quiet (Y.move rfl) rfl<|J.quiet (Y.addW rfl rfl) rfl<|J.quiet (Y.assign rfl) rfl<|J.done<|J.thenN ?_
       exact J.againI ((a33.1++([(wI .i64 (a43.1+r48))])),(wI .i64 (a33.2+(1:Int)))) (u52) h SF (SubM.cons 1 rfl (SubM.cons 1 rfl (SubM.cons 1 rfl (SubM.cons 1 rfl (SubM.nil))))) (LentAll.refl _ _)
     ·have h:=ifN hp36 h
      refine J.exit<|J.thenX<|J.thenX<|J.inX<|J.thenN ?_
      exact J.meetI (a33.1) (b34) h SF (SubM.refl _) (LentAll.refl _ _)
    ·clear h
     intro a21 b22 h
     unfold world_Config_k3 at h
     refine J.region<|J.quiet (Y.move rfl) rfl<|J.quiet (Y.move rfl) rfl<|J.stp (Stp.rowsNil EI64)<|J.know (Know.one ((Lent.ar (Lent.res 4 rfl) FI64))) fun ho23=>J.stp (Stp.addRow 0 4 rfl rfl rfl) ?_
     refine J.loud (Loud.buildS (e:=Enc.raw) [b22] [(0,b22)] rfl rfl rfl rfl (fill_1_1 (b22) ho23) rfl rfl (by simp[cellsOf,Enc.raw,ho23])) rfl fun u24=> ?_
     refine J.know (Know.rws 4 rfl) fun hl25=>J.know (Know.rws 1 rfl) fun hl26=> ?_
     have h:=ck_some h;obtain⟨hc27,h⟩:=h
     refine J.stp (Stp.catRows 4 1 rfl rfl rfl) ?_
     refine J.loud (Loud.append 2 0 rfl rfl rfl rfl rfl rfl rfl (by have q:=hc27;have q1:=hl25;have q2:=hl26;(try simp only[List.length_cons,List.length_nil]at q q1 q2 ⊢);omega) (by have q:=hc27;have q1:=hl25;have q2:=hl26;(try simp only[List.length_cons,List.length_nil]at q q1 q2 ⊢);omega) rfl) rfl fun u28=> ?_
     refine J.quiet (Y.assign rfl) rfl<|J.done<|J.inN<|J.thenN<|J.region<|J.quiet (Y.move rfl) rfl<|J.quiet (Y.addW rfl rfl) rfl<|J.quiet (Y.assign rfl) rfl<|J.done<|J.thenN ?_
     exact J.againI ((a15.1++[a21]),(wI .i64 (a15.2+(1:Int)))) (u28,(b16.2++[b22])) h SF (SubM.cons 1 rfl (SubM.cons 1 rfl (SubM.cons 1 rfl (SubM.nil)))) (LentAll.refl _ _)
   ·have h:=ifN hp18 h
    refine J.exit<|J.thenX<|J.thenX<|J.inX<|J.thenN ?_
    exact J.meetI (a15.1) (b16.1,b16.2) h SF (SubM.cons 1 rfl (SubM.cons 1 rfl (SubM.nil))) (LentAll.refl _ _)
  ·clear h
   intro a8 b9 h
   unfold world_Config_k2 at h
   refine J.seq<|J.region<|J.quiet (Y.move rfl) rfl<|J.quiet (Y.assign rfl) rfl<|J.done<|J.thenN<|J.ret ?_
   obtain rfl:=Option.some.inj h
   exact J.retG1 (b9.1,b9.2) rfl rfl (RV.tmp rfl) (SubM.refl _) LentAll.nil
end Go.Proofs.YtfimaabbclepbaaGreat
end
section
namespace Go.Proofs.YtfimaabbclepbaaGreat
open Go Go.Sx
theorem snoc_at {α:Type} [Inhabited α] (l:List α) (x:α) {i:Nat} (hi:i<l.length+1):at' (l++[x]) (i:Int)=if i<l.length then at' l (i:Int)else x:=by
 rw[at'_nat,at'_nat]
 by_cases h:i<l.length
 ·rw[if_pos h,List.getD_eq_getElem?_getD,List.getD_eq_getElem?_getD,List.getElem?_append_left h]
 ·have:i=l.length:=by omega
  subst this
  rw[if_neg h];simp
def RowOk (g:GR) (vars:List Var) (v:Nat) (l:List Int):Prop:=∀x,x<l.length->lo g (at' vars (x:Int)) v<=at' l (x:Int)∧at' l (x:Int)<=hi g (at' vars (x:Int)) v
theorem config_ok {g:GR} (hV:VG g) (vars:List Var) (raw:List Int) (ht:vars.length<=900) (hs:∀x,x<vars.length->VarSmall (at' vars (x:Int)) ∧ -100000<=(at' vars (x:Int)).2.2.1∧(at' vars (x:Int)).2.2.1<=(at' vars (x:Int)).2.2.2.1):
  OK (fun c=>RCf g c vars) (m_world_Config 1000 g vars raw):=by
 have h24:=hV.n24
 have hlen:=hV.len
 have e1:m_world_Config 1000 g vars raw=world_Config_k1 1000 g vars raw (maxID g g.2.length):=by
  unfold m_world_Config
  refine iter_for (F:=fun k:Nat=>((maxID g k,(k:Int)):Int×Int)) g.2.length (fun k ag hk=> ?_) (fun ag=> ?_) 1000 (by omega)
  ·unfold world_Config_s3
   simp only
   rw[if_pos (by omega),ckT (by omega),wr (by omega) (by omega)]
   rfl
  ·unfold world_Config_s3
   simp only
   rw[if_neg (by omega)]
 rw[e1]
 obtain⟨m1,m2⟩:=maxID_in hV g.2.length (by omega)
 unfold world_Config_k1
 have key:=iter_inv (step:=world_Config_s1 1000 g vars raw (maxID g g.2.length)) (K:=fun x=>some x.1) g.2.length (fun v x=>x.2=(v:Int)∧x.1.length=v∧∀w,w<v->(at' x.1 (w:Int)).length=vars.length∧RowOk g vars w (at' x.1 (w:Int))) (fun v x ag hv hI=> ?_) (fun x ag hI=> ?_) 1000 (([]:List (List Int)),(0:Int)) ⟨rfl,rfl,fun w hw=>by omega⟩ (by omega)
 ·obtain⟨⟨c,i⟩,⟨_,h2,h3⟩,he⟩:=key
  exact⟨c,he,h2,fun v hv=>(h3 v hv).1,fun v hv x hx=>(h3 v hv).2 x (by rw[(h3 v hv).1];exact hx)⟩
 ·obtain⟨c,i⟩:=x
  obtain⟨rfl,h2,h3⟩:=hI
  simp only at h2 h3
  have hdeg:(at' g.2 (v:Int)).length<g.2.length:=(hV.node v hv).deg
  unfold world_Config_s1
  simp only
  rw[if_pos (by omega)]
  have key2:=iter_inv (step:=world_Config_s2 1000 g vars raw (maxID g g.2.length) (c,(v:Int)) ag) (K:=fun y=>ag (c++[y.1],(v:Int)+1)) vars.length (fun x y=>y.2=(x:Int)∧y.1.length=x∧RowOk g vars v y.1) (fun x y ag2 hx hI=> ?_) (fun y ag2 hI=> ?_) 1000 (([]:List Int),(0:Int)) ⟨rfl,rfl,fun x hx=>by simp at hx⟩ (by omega)
  ·obtain⟨⟨l,j⟩,⟨_,k2,k3⟩,he⟩:=key2
   refine⟨(c++[l],(v:Int)+1),⟨by simp,by simp[h2],fun w hw=> ?_⟩,he⟩
   simp only
   rw[snoc_at c l (by omega),h2]
   by_cases e:w<v
   ·rw[if_pos e];exact h3 w e
   ·rw[if_neg e]
    have:w=v:=by omega
    subst this
    exact⟨k2,k3⟩
  ·obtain⟨l,j⟩:=y
   obtain⟨rfl,k2,k3⟩:=hI
   simp only at k2 k3
   obtain⟨⟨s1,s2,s3⟩,s4,s5⟩:=hs x hx
   have fin:∀a b:Int,a=lo g (at' vars (x:Int)) v->b=hi g (at' vars (x:Int)) v -> -100000<=a->a<=b+1->b<=100000000->(a<=b∨(a = -1∧b = -1))->∃y',(y'.2=((x+1:Nat):Int)∧y'.1.length=x+1∧RowOk g vars v y'.1)∧world_Config_k4 1000 vars raw (c,(v:Int)) (l,(x:Int)) ag2 (a,b)=ag2 y':=by
    intro a b ha hb q1 q2 q3 q4
    have hab:a<=b:=by omega
    unfold world_Config_k4
    simp only
    have w1:wI .i64 ((v:Int)*(vars.length:Int))=(v:Int)*(vars.length:Int):=by
     have p1:0<=(v:Int)*(vars.length:Int):=Int.mul_nonneg (by omega) (by omega)
     have p2:(v:Int)*(vars.length:Int)<=24*900:=Int.mul_le_mul (by omega) (by omega) (by omega) (by omega)
     exact wr (by omega) (by omega)
    have p1:0<=(v:Int)*(vars.length:Int):=Int.mul_nonneg (by omega) (by omega)
    have p2:(v:Int)*(vars.length:Int)<=24*900:=Int.mul_le_mul (by omega) (by omega) (by omega) (by omega)
    rw[w1,wr (x:=(v:Int)*(vars.length:Int)+(x:Int)) (by omega) (by omega),at_eq _ _ (by omega),bindS rfl,wr (x:=b - a) (by omega) (by omega),wr (x:=b - a+1) (by omega) (by omega),within_eq _ _ (by omega) (by omega),bindS rfl]
    have r1:=Int.emod_nonneg (at' raw ((v:Int)*(vars.length:Int)+(x:Int))) (b:=b - a+1) (by omega)
    have r2:=Int.emod_lt_of_pos (at' raw ((v:Int)*(vars.length:Int)+(x:Int))) (b:=b - a+1) (by omega)
    generalize at' raw ((v:Int)*(vars.length:Int)+(x:Int))%(b - a+1)=r at r1 r2
    rw[wr (x:=a+r) (by omega) (by omega),ckT (by simp;omega),wr (by omega) (by omega)]
    refine⟨_,⟨by simp,by simp[k2],fun z hz=> ?_⟩,rfl⟩
    simp only[List.length_append,List.length_cons,List.length_nil,k2]at hz
    simp only
    rw[snoc_at l _ (by omega),k2]
    by_cases e:z<x
    ·rw[if_pos e];exact k3 z (by omega)
    ·rw[if_neg e]
     have:z=x:=by omega
     subst this
     rw[<-ha,<-hb];omega
   unfold world_Config_s2
   simp only
   rw[if_pos (by omega),ckT (by omega),ckT (by omega),ckT (by omega),ckT (by omega),ckT (by omega)]
   by_cases t2:(at' vars (x:Int)).2.1=2
   ·rw[if_pos t2]
    exact fin 0 1 (by unfold lo;rw[if_pos t2]) (by unfold hi;rw[if_pos t2]) (by omega) (by omega) (by omega) (by omega)
   ·rw[if_neg t2]
    by_cases t3:(at' vars (x:Int)).2.1=3
    ·rw[if_pos t3,ckT (by omega),wr (by omega) (by omega)]
     exact fin (-1) _ (by unfold lo;rw[if_neg t2,if_pos t3]) (by unfold hi;rw[if_neg t2,if_pos t3]) (by omega) (by omega) (by omega) (by omega)
    ·rw[if_neg t3]
     have q1:0<=(at' vars (x:Int)).2.2.2.2.1*(g.2.length:Int):=Int.mul_nonneg s2.1 (by omega)
     have q2:(at' vars (x:Int)).2.2.2.2.1*(g.2.length:Int)<=100000*24:=Int.mul_le_mul s2.2 (by omega) (by omega) (by omega)
     have q3:0<=(at' vars (x:Int)).2.2.2.2.2*maxID g g.2.length:=Int.mul_nonneg s3.1 m1
     have q4:(at' vars (x:Int)).2.2.2.2.2*maxID g g.2.length<=100000*255:=Int.mul_le_mul s3.2 m2 m1 (by omega)
     rw[wr (x:=(at' vars (x:Int)).2.2.2.2.1*(g.2.length:Int)) (by omega) (by omega),wr (x:=(at' vars (x:Int)).2.2.2.2.2*maxID g g.2.length) (by omega) (by omega),wr (x:=(at' vars (x:Int)).2.2.2.1+(at' vars (x:Int)).2.2.2.2.1*(g.2.length:Int)) (by omega) (by omega),wr (by omega) (by omega)]
     exact fin _ _ (by unfold lo;rw[if_neg t2,if_neg t3]) (by unfold hi;rw[if_neg t2,if_neg t3,hlen]) (by omega) (by omega) (by omega) (by omega)
  ·obtain⟨l,j⟩:=y
   obtain⟨rfl,k2,k3⟩:=hI
   simp only at k2 k3
   unfold world_Config_s2 world_Config_k3
   simp only
   rw[if_neg (by omega),ckT (by simp;omega),wr (by omega) (by omega)]
 ·obtain⟨c,i⟩:=x
  obtain⟨rfl,h2,h3⟩:=hI
  unfold world_Config_s1 world_Config_k2
  simp only
  rw[if_neg (by omega)]
end Go.Proofs.YtfimaabbclepbaaGreat
end
section
namespace Go.Proofs.YtfimaabbclepbaaGreat
open Go.Sx
def law44_CrashMade_k1  (a27:Bool):Option (Bool):=
 some (a27)
def m_law44_CrashMade (fuel:Nat) (p0:Int×List (Int)×List (Int)×List (Int)×Bool×Bool) (p1:List (Int)) (p2:Int):Option (Bool):=
 Option.bind (m__world_Net__Any fuel ((p0.1,p0.2.1,p0.2.2.1,p0.2.2.2.1,p0.2.2.2.2.1,p0.2.2.2.2.2)) (8:Int)) fun r2=>(Option.bind (m_ref32_Vars fuel) fun r8=>(Option.bind (m_world_Config fuel ((r2.1,r2.2)) r8 p1) fun r11=>(Option.bind (m_ref31_Vars fuel) fun r14=>(Option.bind (m_world_Config fuel ((r2.1,r2.2)) r14 p1) fun r17=>(Option.bind (m_ref23_Vars fuel) fun r20=>(Option.bind (m_world_Config fuel ((r2.1,r2.2)) r20 p1) fun r23=>(Option.bind (m_law44_known fuel) fun r29=>(if r29=true then(Option.bind (m_crash_Coloured fuel ((r2.1,r2.2)) r11 p2) fun r33=>(Option.bind (m_ref44_Coloured fuel ((r2.1,r2.2)) r11 p2) fun r36=>(if(r33==r36)=true then(Option.bind (m_crash_Independent fuel ((r2.1,r2.2)) r17 p2) fun r40=>(Option.bind (m_ref44_Independent fuel ((r2.1,r2.2)) r17 p2) fun r43=>(if(r40==r43)=true then(Option.bind (m_crash_Distances fuel ((r2.1,r2.2)) r23 p2) fun r47=>(Option.bind (m_ref44_Distances fuel ((r2.1,r2.2)) r23 p2) fun r50=>(Option.bind (m_ref01_SameInts fuel r47 r50) fun r53=>(law44_CrashMade_k1  (r53)))))else(law44_CrashMade_k1  (false)))))else(law44_CrashMade_k1  (false)))))else(law44_CrashMade_k1  (false))))))))))
theorem t_law44_CrashMade (fuel:Nat) {p0:Int×List (Int)×List (Int)×List (Int)×Bool×Bool} {p1:List (Int)} {p2:Int} (v0:Value)  (v1:Value)  (v2:Value)  (v3:Value) (r:Bool) (h:m_law44_CrashMade fuel p0 p1 p2=some r):
  Meets Tryz.prog 4 #[Value.agg #[Value.int .i64 (p0.1),v0,v1,v2,Value.bool (p0.2.2.2.2.1),Value.bool (p0.2.2.2.2.2)],v3,Value.int .u32 (p2)] [Sl RI64 v0 p0.2.1,Sl RI64 v1 p0.2.2.1,Sl RI64 v2 p0.2.2.2.1,Sl RI64 v3 p1] (fun x:Unit=>Value.bool (r)) (fun x l=>l) (fun _ l=>l):=by
 refine Meets.of (vs:=[Value.agg #[Value.int .i64 (p0.1),v0,v1,v2,Value.bool (p0.2.2.2.2.1),Value.bool (p0.2.2.2.2.2)],v3,Value.int .u32 (p2)]) Tryz.func4 rfl Tryz.ntmps4 rfl fun c=> ?_
 unfold m_law44_CrashMade at h
 refine J.seq<|J.region<|J.loud (Loud.box (cs:=[Value.int .i64 (p0.1),v0,v1,v2,Value.bool (p0.2.2.2.2.1),Value.bool (p0.2.2.2.2.2)]) rfl rfl) rfl fun b1=>J.quiet (Y.assign rfl) rfl<|J.done<|J.thenN<|J.seq<|J.region<|J.quiet (Y.loadBAll 0 rfl rfl rfl rfl) rfl ?_
 have h:=bnd h;obtain⟨r2,hr3,h⟩:=h
 refine J.loud (Loud.callL body13 (t__world_Net__Any fuel v0 v1 v2 r2 hr3) rfl (LentAll.cons (Lent.fact 0 rfl) (LentAll.cons (Lent.fact 1 rfl) (LentAll.cons (Lent.fact 2 rfl) .nil))) (fun _ _=>rfl)) rfl fun x4=>J.loud (Loud.alloc (cs:=[Value.slice none 0 0,Value.slice none 0 0]) rfl rfl) rfl fun b5=>J.know (Know.one ((Lent.ar (Lent.res 1 rfl) FI64))) fun ho6=>J.know (Know.one (Lent.sl (Lent.rows (i:=2) (j:=3) rfl rfl FI64I64p))) fun ho7=>J.storeAll 0 (vs:=[x4.1,x4.2.1]) rfl rfl (all1 ho6 (all1 ho7 rfl)) rfl rfl rfl<|J.done<|J.thenN<|J.seq ?_
 refine JR.start [0,0,0,7,0,15,0,127,0,255,0,2047,4095,8191,16383] 11 mixedOrders (by decide +kernel) ?_
 refine JR.open (by exact rfl) ?_
 refine JR.qt rfl (SubM.cons 0 rfl (SubM.nil)) (SubL.nil) (Y.loadBAll 0 rfl rfl rfl rfl) HistOk.z ?_
 have h:=bnd h;obtain⟨r8,hr9,h⟩:=h
 refine JR.loud rfl rfl rfl (Loud.callL body15 (t_ref32_Vars fuel  r8 hr9) rfl .nil (fun _ _=>rfl)) rfl (fun x10=>(BsOk.h (SubM.cons 1 rfl (SubM.nil)) (SubL.nil) BsOk.z)) fun x10=>JR.qt rfl (SubM.nil) (SubL.nil) (Y.move rfl) (HistOk.h (SubM.nil) (SubL.nil) HistOk.z) ?_
 have h:=bnd h;obtain⟨r11,hr12,h⟩:=h
 refine JR.loud rfl rfl rfl (Loud.callL body14 (t_world_Config fuel x4.1 x4.2.1 (List.zip x4.2.2 r2.2) x10 v3 r11 hr12) rfl (LentAll.cons (Lent.ar (Lent.res 2 rfl) FI64) (LentAll.cons (Lent.rows (i:=3) (j:=4) rfl rfl FI64I64p) (LentAll.cons (Lent.ar (Lent.res 0 rfl) FStI64I64I64I64I64p) (LentAll.cons (Lent.fact 3 rfl) .nil)))) (fun _ _=>rfl)) rfl (fun x13=>(BsOk.b rfl (BsOk.b rfl BsOk.z))) fun x13=>JR.qt rfl (SubM.cons 3 rfl (SubM.nil)) (SubL.nil) (Y.loadBAll 0 rfl rfl rfl rfl) (HistOk.h (SubM.cons 1 rfl (SubM.nil)) (SubL.nil) (HistOk.h (SubM.cons 0 rfl (SubM.nil)) (SubL.nil) HistOk.z)) ?_
 have h:=bnd h;obtain⟨r14,hr15,h⟩:=h
 refine JR.loud rfl rfl rfl (Loud.callL body16 (t_ref31_Vars fuel  r14 hr15) rfl .nil (fun _ _=>rfl)) rfl (fun x16=>(BsOk.h (SubM.cons 4 rfl (SubM.nil)) (SubL.nil) (BsOk.b rfl (BsOk.b rfl BsOk.z)))) fun x16=>JR.qt rfl (SubM.nil) (SubL.nil) (Y.move rfl) (HistOk.h (SubM.nil) (SubL.nil) (HistOk.h (SubM.nil) (SubL.nil) (HistOk.h (SubM.nil) (SubL.nil) HistOk.z))) ?_
 have h:=bnd h;obtain⟨r17,hr18,h⟩:=h
 refine JR.loud rfl rfl rfl (Loud.callL body14 (t_world_Config fuel x4.1 x4.2.1 (List.zip x4.2.2 r2.2) x16 v3 r17 hr18) rfl (LentAll.cons (Lent.ar (Lent.res 5 rfl) FI64) (LentAll.cons (Lent.rows (i:=6) (j:=7) rfl rfl FI64I64p) (LentAll.cons (Lent.ar (Lent.res 0 rfl) FStI64I64I64I64I64p) (LentAll.cons (Lent.fact 3 rfl) .nil)))) (fun _ _=>rfl)) rfl (fun x19=>(BsOk.b rfl (BsOk.b rfl (BsOk.b rfl (BsOk.b rfl BsOk.z))))) fun x19=>JR.qt rfl (SubM.cons 6 rfl (SubM.nil)) (SubL.nil) (Y.loadBAll 0 rfl rfl rfl rfl) (HistOk.h (SubM.cons 4 rfl (SubM.nil)) (SubL.nil) (HistOk.h (SubM.cons 3 rfl (SubM.nil)) (SubL.nil) (HistOk.h (SubM.cons 1 rfl (SubM.nil)) (SubL.nil) (HistOk.h (SubM.cons 0 rfl (SubM.nil)) (SubL.nil) HistOk.z)))) ?_
 have h:=bnd h;obtain⟨r20,hr21,h⟩:=h
 refine JR.loud rfl rfl rfl (Loud.callL body17 (t_ref23_Vars fuel  r20 hr21) rfl .nil (fun _ _=>rfl)) rfl (fun x22=>(BsOk.h (SubM.cons 7 rfl (SubM.nil)) (SubL.nil) (BsOk.b rfl (BsOk.b rfl (BsOk.b rfl (BsOk.b rfl BsOk.z)))))) fun x22=>JR.qt rfl (SubM.nil) (SubL.nil) (Y.move rfl) (HistOk.h (SubM.nil) (SubL.nil) (HistOk.h (SubM.nil) (SubL.nil) (HistOk.h (SubM.nil) (SubL.nil) (HistOk.h (SubM.nil) (SubL.nil) (HistOk.h (SubM.nil) (SubL.nil) HistOk.z)))))<|JR.tailD 11 rfl rfl ?_
 have h:=bnd h;obtain⟨r23,hr24,h⟩:=h
 refine J.loud (Loud.callL body14 (t_world_Config fuel x4.1 x4.2.1 (List.zip x4.2.2 r2.2) x22 v3 r23 hr24) rfl (LentAll.cons (Lent.ar (Lent.res 8 rfl) FI64) (LentAll.cons (Lent.rows (i:=9) (j:=10) rfl rfl FI64I64p) (LentAll.cons (Lent.ar (Lent.res 0 rfl) FStI64I64I64I64I64p) (LentAll.cons (Lent.fact 3 rfl) .nil)))) (fun _ _=>rfl)) rfl fun x25=>J.quiet (Y.assign rfl) rfl<|J.quiet (Y.assign rfl) rfl<|J.quiet (Y.assign rfl) rfl<|J.done<|J.thenN<|J.seq<|J.midI (A:=Bool) (B:=Unit) (fun a27=>law44_CrashMade_k1  a27=some r) (fun a27 b28=>[(6,Value.bool (a27))]) (fun a27 b28=>[]) (fun a27 b28=>[Sl RI64 v0 p0.2.1,Sl RI64 v1 p0.2.2.1,Sl RI64 v2 p0.2.2.2.1,Sl RI64 v3 p1]) ?_ ?_
 ·refine JR.start [0,1,3,3,3,31,3,3,3,511,1023,2047,4095,8191,8191,8191,65535,8191,8191,8191,1048575,2097151,4194303,8388607,16777215,16777215,16777215,134217727,16777215,16777215,16777215,2147483647,4294967295,8589934591,17179869183] 31 mixedOrders (by decide +kernel) ?_
  refine JR.open (by exact rfl) ?_
  have h:=bnd h;obtain⟨r29,hr30,h⟩:=h
  refine JR.loud rfl rfl rfl (Loud.callL body5 (t_law44_known fuel  r29 hr30) rfl .nil (fun _ _=>rfl)) rfl (fun x31=>BsOk.z) fun x31=>JR.qt rfl (SubM.nil) (SubL.nil) (Y.move rfl) (HistOk.b rfl HistOk.z) ?_
  refine JR.guard (by exact rfl) (by exact rfl) (by exact rfl) (fun hp32=> ?_) (fun hp32=> ?_)
  ·have h:=ifP hp32 h
   refine JR.qtG rfl (SubM.cons 9 rfl (SubM.nil)) (SubL.nil) (Y.loadBAll 0 rfl rfl rfl rfl) (HistOk.b rfl HistOk.z)<|JR.qtG rfl (SubM.nil) (SubL.nil) (Y.move rfl) (HistOk.b rfl HistOk.z)<|JR.qtG rfl (SubM.nil) (SubL.nil) (Y.move rfl) (HistOk.b rfl HistOk.z) ?_
   have h:=bnd h;obtain⟨r33,hr34,h⟩:=h
   refine JR.loudG rfl rfl rfl rfl (Loud.callL body6 (t_crash_Coloured fuel x4.1 x4.2.1 (List.zip x4.2.2 r2.2) x13.1 (List.zip x13.2 r11) r33 hr34) rfl (LentAll.cons (Lent.ar (Lent.res 10 rfl) FI64) (LentAll.cons (Lent.rows (i:=11) (j:=12) rfl rfl FI64I64p) (LentAll.cons (Lent.rows (i:=6) (j:=7) rfl rfl FI64) .nil))) (fun _ _=>rfl)) rfl (fun x35=>(BsOk.b rfl (BsOk.b rfl (BsOk.b rfl (BsOk.b rfl BsOk.z))))) fun x35=>JR.qtG rfl (SubM.cons 9 rfl (SubM.nil)) (SubL.nil) (Y.loadBAll 0 rfl rfl rfl rfl) (HistOk.h (SubM.cons 9 rfl (SubM.nil)) (SubL.nil) (HistOk.b rfl HistOk.z))<|JR.qtG rfl (SubM.nil) (SubL.nil) (Y.move rfl) (HistOk.h (SubM.nil) (SubL.nil) (HistOk.b rfl HistOk.z))<|JR.qtG rfl (SubM.nil) (SubL.nil) (Y.move rfl) (HistOk.h (SubM.nil) (SubL.nil) (HistOk.b rfl HistOk.z)) ?_
   have h:=bnd h;obtain⟨r36,hr37,h⟩:=h
   refine JR.loudG rfl rfl rfl rfl (Loud.callL body7 (t_ref44_Coloured fuel x4.1 x4.2.1 (List.zip x4.2.2 r2.2) x13.1 (List.zip x13.2 r11) r36 hr37) rfl (LentAll.cons (Lent.ar (Lent.res 10 rfl) FI64) (LentAll.cons (Lent.rows (i:=11) (j:=12) rfl rfl FI64I64p) (LentAll.cons (Lent.rows (i:=6) (j:=7) rfl rfl FI64) .nil))) (fun _ _=>rfl)) rfl (fun x38=>(BsOk.b rfl (BsOk.b rfl (BsOk.b rfl (BsOk.b rfl (BsOk.b rfl (BsOk.b rfl (BsOk.b rfl BsOk.z)))))))) fun x38=>JR.qtG rfl (SubM.nil) (SubL.nil) (Y.eqlB rfl rfl rfl) (HistOk.b rfl (HistOk.b rfl (HistOk.b rfl HistOk.z)))<|JR.qt rfl (SubM.nil) (SubL.nil) (Y.pickT rfl rfl) (HistOk.b rfl (HistOk.b rfl (HistOk.b rfl HistOk.z)))<|JR.qt rfl (SubM.nil) (SubL.nil) (Y.move rfl) (HistOk.b rfl (HistOk.b rfl (HistOk.b rfl HistOk.z))) ?_
   refine JR.guard (by exact rfl) (by exact rfl) (by exact rfl) (fun hp39=> ?_) (fun hp39=> ?_)
   ·have h:=ifP hp39 h
    refine JR.qtG rfl (SubM.cons 9 rfl (SubM.nil)) (SubL.nil) (Y.loadBAll 0 rfl rfl rfl rfl) (HistOk.b rfl (HistOk.b rfl (HistOk.b rfl HistOk.z)))<|JR.qtG rfl (SubM.nil) (SubL.nil) (Y.move rfl) (HistOk.b rfl (HistOk.b rfl (HistOk.b rfl HistOk.z)))<|JR.qtG rfl (SubM.nil) (SubL.nil) (Y.move rfl) (HistOk.b rfl (HistOk.b rfl (HistOk.b rfl HistOk.z))) ?_
    have h:=bnd h;obtain⟨r40,hr41,h⟩:=h
    refine JR.loudG rfl rfl rfl rfl (Loud.callL body8 (t_crash_Independent fuel x4.1 x4.2.1 (List.zip x4.2.2 r2.2) x19.1 (List.zip x19.2 r17) r40 hr41) rfl (LentAll.cons (Lent.ar (Lent.res 10 rfl) FI64) (LentAll.cons (Lent.rows (i:=11) (j:=12) rfl rfl FI64I64p) (LentAll.cons (Lent.rows (i:=3) (j:=4) rfl rfl FI64) .nil))) (fun _ _=>rfl)) rfl (fun x42=>(BsOk.b rfl (BsOk.b rfl (BsOk.b rfl (BsOk.b rfl (BsOk.b rfl (BsOk.b rfl (BsOk.b rfl (BsOk.b rfl (BsOk.b rfl (BsOk.b rfl (BsOk.b rfl (BsOk.b rfl (BsOk.b rfl BsOk.z)))))))))))))) fun x42=>JR.qtG rfl (SubM.cons 9 rfl (SubM.nil)) (SubL.nil) (Y.loadBAll 0 rfl rfl rfl rfl) (HistOk.h (SubM.cons 9 rfl (SubM.nil)) (SubL.nil) (HistOk.b rfl (HistOk.b rfl (HistOk.b rfl HistOk.z))))<|JR.qtG rfl (SubM.nil) (SubL.nil) (Y.move rfl) (HistOk.h (SubM.nil) (SubL.nil) (HistOk.b rfl (HistOk.b rfl (HistOk.b rfl HistOk.z))))<|JR.qtG rfl (SubM.nil) (SubL.nil) (Y.move rfl) (HistOk.h (SubM.nil) (SubL.nil) (HistOk.b rfl (HistOk.b rfl (HistOk.b rfl HistOk.z)))) ?_
    have h:=bnd h;obtain⟨r43,hr44,h⟩:=h
    refine JR.loudG rfl rfl rfl rfl (Loud.callL body9 (t_ref44_Independent fuel x4.1 x4.2.1 (List.zip x4.2.2 r2.2) x19.1 (List.zip x19.2 r17) r43 hr44) rfl (LentAll.cons (Lent.ar (Lent.res 10 rfl) FI64) (LentAll.cons (Lent.rows (i:=11) (j:=12) rfl rfl FI64I64p) (LentAll.cons (Lent.rows (i:=3) (j:=4) rfl rfl FI64) .nil))) (fun _ _=>rfl)) rfl (fun x45=>(BsOk.b rfl (BsOk.b rfl (BsOk.b rfl (BsOk.b rfl (BsOk.b rfl (BsOk.b rfl (BsOk.b rfl (BsOk.b rfl (BsOk.b rfl (BsOk.b rfl (BsOk.b rfl (BsOk.b rfl (BsOk.b rfl (BsOk.b rfl (BsOk.b rfl (BsOk.b rfl BsOk.z))))))))))))))))) fun x45=>JR.qtG rfl (SubM.nil) (SubL.nil) (Y.eqlB rfl rfl rfl) (HistOk.b rfl (HistOk.b rfl (HistOk.b rfl (HistOk.b rfl (HistOk.b rfl HistOk.z)))))<|JR.qt rfl (SubM.nil) (SubL.nil) (Y.pickT rfl rfl) (HistOk.b rfl (HistOk.b rfl (HistOk.b rfl (HistOk.b rfl (HistOk.b rfl HistOk.z)))))<|JR.qt rfl (SubM.nil) (SubL.nil) (Y.move rfl) (HistOk.b rfl (HistOk.b rfl (HistOk.b rfl (HistOk.b rfl (HistOk.b rfl HistOk.z))))) ?_
    refine JR.guard (by exact rfl) (by exact rfl) (by exact rfl) (fun hp46=> ?_) (fun hp46=> ?_)
    ·have h:=ifP hp46 h
     refine JR.qtG rfl (SubM.cons 9 rfl (SubM.nil)) (SubL.nil) (Y.loadBAll 0 rfl rfl rfl rfl) (HistOk.b rfl (HistOk.b rfl (HistOk.b rfl (HistOk.b rfl (HistOk.b rfl HistOk.z)))))<|JR.qtG rfl (SubM.nil) (SubL.nil) (Y.move rfl) (HistOk.b rfl (HistOk.b rfl (HistOk.b rfl (HistOk.b rfl (HistOk.b rfl HistOk.z)))))<|JR.qtG rfl (SubM.nil) (SubL.nil) (Y.move rfl) (HistOk.b rfl (HistOk.b rfl (HistOk.b rfl (HistOk.b rfl (HistOk.b rfl HistOk.z))))) ?_
     have h:=bnd h;obtain⟨r47,hr48,h⟩:=h
     refine JR.loudG rfl rfl rfl rfl (Loud.callL body11 (t_crash_Distances fuel x4.1 x4.2.1 (List.zip x4.2.2 r2.2) x25.1 (List.zip x25.2 r23) r47 hr48) rfl (LentAll.cons (Lent.ar (Lent.res 10 rfl) FI64) (LentAll.cons (Lent.rows (i:=11) (j:=12) rfl rfl FI64I64p) (LentAll.cons (Lent.rows (i:=0) (j:=1) rfl rfl FI64) .nil))) (fun _ _=>rfl)) rfl (fun x49=>(BsOk.b rfl (BsOk.b rfl (BsOk.b rfl (BsOk.b rfl (BsOk.b rfl (BsOk.b rfl (BsOk.b rfl (BsOk.b rfl (BsOk.b rfl (BsOk.b rfl (BsOk.b rfl (BsOk.b rfl (BsOk.b rfl (BsOk.b rfl (BsOk.b rfl (BsOk.b rfl (BsOk.b rfl (BsOk.b rfl (BsOk.b rfl (BsOk.b rfl (BsOk.b rfl (BsOk.b rfl BsOk.z))))))))))))))))))))))) fun x49=>JR.qtG rfl (SubM.cons 10 rfl (SubM.nil)) (SubL.nil) (Y.loadBAll 0 rfl rfl rfl rfl) (HistOk.h (SubM.cons 9 rfl (SubM.nil)) (SubL.nil) (HistOk.b rfl (HistOk.b rfl (HistOk.b rfl (HistOk.b rfl (HistOk.b rfl HistOk.z))))))<|JR.qtG rfl (SubM.nil) (SubL.nil) (Y.move rfl) (HistOk.h (SubM.nil) (SubL.nil) (HistOk.b rfl (HistOk.b rfl (HistOk.b rfl (HistOk.b rfl (HistOk.b rfl HistOk.z))))))<|JR.qtG rfl (SubM.nil) (SubL.nil) (Y.move rfl) (HistOk.h (SubM.nil) (SubL.nil) (HistOk.b rfl (HistOk.b rfl (HistOk.b rfl (HistOk.b rfl (HistOk.b rfl HistOk.z))))))<|JR.tailD 31 rfl rfl ?_
     have h:=bnd h;obtain⟨r50,hr51,h⟩:=h
     refine J.loudG rfl (Loud.callL body12 (t_ref44_Distances fuel x4.1 x4.2.1 (List.zip x4.2.2 r2.2) x25.1 (List.zip x25.2 r23) r50 hr51) rfl (LentAll.cons (Lent.ar (Lent.res 11 rfl) FI64) (LentAll.cons (Lent.rows (i:=12) (j:=13) rfl rfl FI64I64p) (LentAll.cons (Lent.rows (i:=1) (j:=2) rfl rfl FI64) .nil))) (fun _ _=>rfl)) rfl fun x52=> ?_
     have h:=bnd h;obtain⟨r53,hr54,h⟩:=h
     refine J.loudG rfl (Loud.callL body10 (t_ref01_SameInts fuel x49 x52 r53 hr54) rfl (LentAll.cons (Lent.ar (Lent.res 1 rfl) FI64) (LentAll.cons (Lent.ar (Lent.res 0 rfl) FI64) .nil)) (fun _ _=>rfl)) rfl fun x55=>J.quiet (Y.pickT rfl rfl) rfl<|J.quiet (Y.assign rfl) rfl<|J.done<|J.thenN ?_
     exact J.meetI (r53) (()) h SF (SubM.nil) (LentAll.refl _ _)
    ·have h:=ifBN hp46 h
     refine JR.guardN rfl rfl rfl rfl<|JR.guardN rfl rfl rfl rfl<|JR.guardN rfl rfl rfl rfl<|JR.guardN rfl rfl rfl rfl<|JR.guardN rfl rfl rfl rfl<|JR.guardN rfl rfl rfl rfl<|JR.guardN rfl rfl rfl rfl<|JR.tailD 31 rfl rfl<|J.guardN rfl rfl rfl<|J.guardN rfl rfl rfl<|J.quiet (Y.pickF rfl rfl) rfl<|J.quiet (Y.assign rfl) rfl<|J.done<|J.thenN ?_
     exact J.meetI (false) (()) h SF (SubM.nil) (LentAll.refl _ _)
   ·have h:=ifBN hp39 h
    refine JR.guardN rfl rfl rfl rfl<|JR.guardN rfl rfl rfl rfl<|JR.guardN rfl rfl rfl rfl<|JR.guardN rfl rfl rfl rfl<|JR.guardN rfl rfl rfl rfl<|JR.guardN rfl rfl rfl rfl<|JR.guardN rfl rfl rfl rfl<|JR.guardN rfl rfl rfl rfl<|JR.guardN rfl rfl rfl rfl<|JR.qt rfl (SubM.nil) (SubL.nil) (Y.pickF rfl rfl) (HistOk.b rfl (HistOk.b rfl (HistOk.b rfl HistOk.z)))<|JR.qt rfl (SubM.nil) (SubL.nil) (Y.move rfl) (HistOk.b rfl (HistOk.b rfl (HistOk.b rfl HistOk.z)))<|JR.guardN rfl rfl rfl rfl<|JR.guardN rfl rfl rfl rfl<|JR.guardN rfl rfl rfl rfl<|JR.guardN rfl rfl rfl rfl<|JR.guardN rfl rfl rfl rfl<|JR.guardN rfl rfl rfl rfl<|JR.guardN rfl rfl rfl rfl<|JR.tailD 31 rfl rfl<|J.guardN rfl rfl rfl<|J.guardN rfl rfl rfl<|J.quiet (Y.pickF rfl rfl) rfl<|J.quiet (Y.assign rfl) rfl<|J.done<|J.thenN ?_
    exact J.meetI (false) (()) h SF (SubM.nil) (LentAll.refl _ _)
  ·have h:=ifBN hp32 h
   refine JR.guardN rfl rfl rfl rfl<|JR.guardN rfl rfl rfl rfl<|JR.guardN rfl rfl rfl rfl<|JR.guardN rfl rfl rfl rfl<|JR.guardN rfl rfl rfl rfl<|JR.guardN rfl rfl rfl rfl<|JR.guardN rfl rfl rfl rfl<|JR.guardN rfl rfl rfl rfl<|JR.guardN rfl rfl rfl rfl<|JR.qt rfl (SubM.nil) (SubL.nil) (Y.pickF rfl rfl) (HistOk.b rfl HistOk.z)<|JR.qt rfl (SubM.nil) (SubL.nil) (Y.move rfl) (HistOk.b rfl HistOk.z)<|JR.guardN rfl rfl rfl rfl<|JR.guardN rfl rfl rfl rfl<|JR.guardN rfl rfl rfl rfl<|JR.guardN rfl rfl rfl rfl<|JR.guardN rfl rfl rfl rfl<|JR.guardN rfl rfl rfl rfl<|JR.guardN rfl rfl rfl rfl<|JR.guardN rfl rfl rfl rfl<|JR.guardN rfl rfl rfl rfl<|JR.qt rfl (SubM.nil) (SubL.nil) (Y.pickF rfl rfl) (HistOk.b rfl HistOk.z)<|JR.qt rfl (SubM.nil) (SubL.nil) (Y.move rfl) (HistOk.b rfl HistOk.z)<|JR.guardN rfl rfl rfl rfl<|JR.guardN rfl rfl rfl rfl<|JR.guardN rfl rfl rfl rfl<|JR.guardN rfl rfl rfl rfl<|JR.guardN rfl rfl rfl rfl<|JR.guardN rfl rfl rfl rfl<|JR.guardN rfl rfl rfl rfl<|JR.tailD 31 rfl rfl<|J.guardN rfl rfl rfl<|J.guardN rfl rfl rfl<|J.quiet (Y.pickF rfl rfl) rfl<|J.quiet (Y.assign rfl) rfl<|J.done<|J.thenN ?_
   exact J.meetI (false) (()) h SF (SubM.nil) (LentAll.refl _ _)
 ·clear h
  intro a27 b28 h
  unfold law44_CrashMade_k1 at h
  refine J.ret ?_
  obtain rfl:=Option.some.inj h
  exact J.retG1 (()) rfl rfl (RV.tmp rfl) (SubM.refl _) LentAll.nil
end Go.Proofs.YtfimaabbclepbaaGreat
end
section
namespace Go.Proofs.YtfimaabbclepbaaGreat
open Go Go.Sx
theorem wide32:∀x,x<varC.length->VarSmall (at' varC (x:Int)) ∧ -100000<=(at' varC (x:Int)).2.2.1∧(at' varC (x:Int)).2.2.1<=(at' varC (x:Int)).2.2.2.1:=by
 intro x hx
 refine⟨small32 x hx,?_⟩
 obtain rfl:x=0:=by simp[varC]at hx;exact hx
 exact⟨by decide,by decide⟩
theorem wide31:∀x,x<varM.length->VarSmall (at' varM (x:Int)) ∧ -100000<=(at' varM (x:Int)).2.2.1∧(at' varM (x:Int)).2.2.1<=(at' varM (x:Int)).2.2.2.1:=by
 intro x hx
 refine⟨small31 x hx,?_⟩
 obtain rfl:x=0:=by simp[varM]at hx;exact hx
 exact⟨by decide,by decide⟩
theorem wide23:∀x,x<varD.length->VarSmall (at' varD (x:Int)) ∧ -100000<=(at' varD (x:Int)).2.2.1∧(at' varD (x:Int)).2.2.1<=(at' varD (x:Int)).2.2.2.1:=by
 intro x hx
 refine⟨small23 x hx,?_⟩
 have hx:x<2:=hx
 match x,hx with
 |0,_=>exact⟨by decide,by decide⟩
 |1,_=>exact⟨by decide,by decide⟩
theorem made_pure (x:NETX) (raw:List Int) (p2:Int) (h0:0<=p2) (h1:p2<4294967296):m_law44_CrashMade 1000 x raw p2=some true:=by
 obtain⟨d,rfl⟩:∃d:Nat,p2=d:=⟨p2.toNat,by omega⟩
 have hd:d<4294967296:=by omega
 obtain⟨g,hg,hVM,_⟩:=any_ok x 8 (by omega) (by omega)
 have hV:VG g:=hVM.vg
 unfold m_law44_CrashMade
 rw[show m__world_Net__Any 1000 (x.1,x.2.1,x.2.2.1,x.2.2.2.1,x.2.2.2.2.1,x.2.2.2.2.2) 8=some g from hg,bindS rfl,vars32,bindS rfl]
 obtain⟨a,ha,_⟩:=config_ok hV varC raw (by decide) wide32
 rw[show m_world_Config 1000 (g.1,g.2) varC raw=some a from ha,bindS rfl,vars31,bindS rfl]
 obtain⟨b,hb,_⟩:=config_ok hV varM raw (by decide) wide31
 rw[show m_world_Config 1000 (g.1,g.2) varM raw=some b from hb,bindS rfl,vars23,bindS rfl]
 obtain⟨c,hc,_⟩:=config_ok hV varD raw (by decide) wide23
 rw[show m_world_Config 1000 (g.1,g.2) varD raw=some c from hc,bindS rfl,show m_law44_known 1000=some true from rfl,bindS rfl,if_pos rfl]
 obtain⟨x,hx,hx'⟩:=same2 (coloured_eq g a hd) (refColoured_eq g a hd)
 obtain⟨y,hy,hy'⟩:=same2 (independent_eq g b hd) (refIndependent_eq g b hd)
 obtain⟨l,hl,hl',hl3⟩:=distances_same (g:=g) (c:=c) hd
 rw[show m_crash_Coloured 1000 (g.1,g.2) a (d:Int)=some x from hx,bindS rfl,show m_ref44_Coloured 1000 (g.1,g.2) a (d:Int)=some x from hx',bindS rfl,if_pos (by simp),show m_crash_Independent 1000 (g.1,g.2) b (d:Int)=some y from hy,bindS rfl,show m_ref44_Independent 1000 (g.1,g.2) b (d:Int)=some y from hy',bindS rfl,if_pos (by simp),show m_crash_Distances 1000 (g.1,g.2) c (d:Int)=some l from hl,bindS rfl,show m_ref44_Distances 1000 (g.1,g.2) c (d:Int)=some l from hl',bindS rfl,sameInts_refl l hl3,bindS rfl]
 rfl
end Go.Proofs.YtfimaabbclepbaaGreat
end
section
namespace Go.Sx
open Go.RowKit Go.ChangeShapes Go.WideShapes Go.ChangeAt Go.Proofs Go.Joins Go.Deep
section
variable {H:Type} {enc:TypeId×Value->H} {P:Program} {w:World} {base:Nat} {spare:Nat->Bool} {held:Bool}
theorem list_by_index {α:Type} (l:List α) (d:α):l=(List.range l.length).map fun i=>l.getD i d:=by
 apply List.ext_getElem?
 intro i
 by_cases h:i<l.length
 ·simp[h]
 ·simp[h]
theorem open_agg {r:Reach} {b0:Nat} {t:TypeId} {fs:Array Field} {v:Value} {d:DataW H} {p:List MemPlace} (hs:P.underlying t=some (.struct fs)) (hone:oneCellFields P fs=true) (hC:P.cellsOf t=fs.size)
  (hv:Value.okWide P w r b0 t v) (h:DataW.Trod enc P w base spare held t v d p):
  ∃(V:Nat->Value) (Y:Nat->DataW H×List MemPlace) (n:Nat),v = .agg ((List.range fs.size).map V).toArray∧∀(i:Nat) (f:Field),fs[i]? = some f->DataW.trod enc P w base spare held n f.type [V i]=some (Y i):=by
 obtain⟨cs,rfl,hsz⟩:=okWide_struct hs hv
 obtain⟨fuel,hf⟩:=h
 obtain⟨xs,n,_,_,_,hlen,hg⟩:=DataW.trod_struct hs hf
 refine⟨fun i=>cs.toList.getD i undef,fun i=>xs.getD i (.nil,[]),n,?_,fun i f hi=> ?_⟩
 ·congr 1
  apply Array.toList_inj.1
  show cs.toList=(List.range fs.size).map fun i=>cs.toList.getD i undef
  have h2:fs.size=cs.toList.length:=by rw[<-hC,<-hsz];rfl
  rw[h2]
  exact list_by_index cs.toList undef
 ·have hlt:i<fs.size:=(Array.getElem?_eq_some_iff.1 hi).1
  obtain⟨o,k⟩:=hone_of hone i f hi
  have g:=hg i f hi
  have hcl:(Value.cells (.agg cs)).toList=cs.toList:=rfl
  have hl:i<cs.toList.length:=by rw[Array.length_toList];omega
  rw[o,k,hcl,take1_drop _ _ undef hl]at g
  rw[g]
  have hx:i<xs.length:=by omega
  simp[hx]
theorem leaf_int {k:IntKind} {e:TypeId} (he:P.underlying e=some (.int k)) {n:Nat} {v:Value} {x:DataW H×List MemPlace} (h:DataW.trod enc P w base spare held n e [v]=some x):∃y:Int,v = .int k y:=by
 obtain⟨y,hy,_,_⟩:=DataW.trod_int he h
 exact⟨y,by simpa using hy⟩
theorem leaf_bool {e:TypeId} (he:P.underlying e=some .bool) {n:Nat} {v:Value} {x:DataW H×List MemPlace} (h:DataW.trod enc P w base spare held n e [v]=some x):∃y:Bool,v = .bool y:=by
 obtain⟨y,hy,_⟩:=DataW.trod_bool he h
 exact⟨y,by simpa using hy⟩
theorem wf_u32 {n:Int} (h:(Lit.int .u32 n).wf=true):0<=n∧n<4294967296:=by
 simp only[Lit.wf,Bool.and_eq_true,decide_eq_true_eq]at h
 have e1:IntKind.u32.min=0:=by decide
 have e2:IntKind.u32.max=4294967295:=by decide
 omega
end
end Go.Sx
end
