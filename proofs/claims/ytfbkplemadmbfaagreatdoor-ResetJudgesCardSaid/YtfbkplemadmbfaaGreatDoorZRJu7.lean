/- Models of functions with their proofs, by program (gen/xt.py), and plain laws, in one text. Conditions: none. -/
import Derived.Test.YtfbkplemadmbfaaGreatDoorZRJu6
import Derived.Test.YtfbkplemadmbfaaGreatDoorZRJu2
import Derived.Test.YtfbkplemadmbfaaGreatDoorZRJu3
import Derived.Test.YtfbkplemadmbfaaGreatDoorZRJu5
set_option linter.unusedVariables false
set_option linter.unusedSimpArgs false
set_option maxHeartbeats 4000000
set_option maxRecDepth 20000
section
namespace Go.Gx
open Go Go.Sx
noncomputable section
def impRows {α:Type} (sz:Nat) (g:α->List GV) (xss:List (List α)):GH->List GV×GH:=List.rec (motive:=fun _=>GH->List GV×GH) (fun H=>([],H)) (fun xs _ ih H=>let r:=ih (H.new (.cells (xs.flatMap g)));(.sl H.n 0 xs.length sz::r.1,r.2)) xss
end
section
variable {P:Program} {gs:Gls} {w0:Base gs} {w:World} {ρ:Rho} {H:GH}
def Apart (ρ:Rho) (H:GH) (B:Nat->Prop):Prop:=∀h o l,H.get h=some o->ρ h=some l->¬B l.b
theorem Apart.mono {B B':Nat->Prop} (h:Apart ρ H B) (hB:∀k,B' k->B k):Apart ρ H B':=fun a o l h1 h2 h3=>h a o l h1 h2 (hB _ h3)
theorem Apart.start (R:Rel w0 ρ H w):Apart ρ H (fun k=>w.heap.size<=k):=fun h o l hg hl hb=>by
 obtain⟨l',hl',_,ho⟩:=R.live h o hg
 rw[hl]at hl';cases hl'
 have:=ho.lt
 omega
theorem import_ok {α:Type} {e:Enc α} {xs:List α} {cs:List GV} {v:Value} {B F:Nat->Prop} (R:Rel w0 ρ H w) (A:Apart ρ H B) (hB:∀k,B k->w0.mine k) (hFB:∀k,F k->B k) (ha:ArR e w F v xs) (hne:xs≠[]) (hcs:RlL ρ cs (cellsOf e xs)):
  ∃ρ',ρ.le ρ'∧Rel w0 ρ' (H.new (.cells cs)) w∧Rl ρ' (.sl H.n 0 xs.length e.sz) v∧Apart ρ' (H.new (.cells cs)) (fun k=>B k∧¬F k):=by
 obtain⟨_,hone,hh⟩:=ha
 rcases hh with⟨_,h0⟩|⟨b,off,cap,T,cur,rfl,hF,hb,hc,hsz,hcells⟩
 ·exact absurd h0 hne
 have hlen:(cellsOf e xs).length=xs.length*e.sz:=by
  rw[<-hcells]
  simp
  have:xs.length*e.sz<=cap*e.sz:=Nat.mul_le_mul_right _ hc
  omega
 have hle:ρ.le (ρ.upd H.n ⟨b,off,cur.size,.cells cur T (0,0),.cells cs⟩):=Rho.le_upd (R.fresh _ (Nat.le_refl _))
 have hcap:xs.length*e.sz<=cap*e.sz:=Nat.mul_le_mul_right _ hc
 obtain⟨_,R'⟩:=R.new (o:= .cells cs) (l:=⟨b,off,cur.size,.cells cur T (0,0),.cells cs⟩) R.ext (fun h o' l' hg hl=>⟨rfl,fun e'=>A h o' l' hg hl (by rw[e'];exact hFB _ hF)⟩) (hB _ (hFB _ hF)) ⟨cur,T,hb,rfl,by
   show off+cs.length<=cur.size
   have:=hcs.len;omega,fun i g hg=>by
   obtain⟨x,hx,hr⟩:=hcs.get hg
   refine⟨x,?_,hr.le hle,List.all_eq_true.1 hone x (List.mem_of_getElem? hx)⟩
   rw[<-hcells,List.getElem?_take]at hx
   by_cases hi:i<xs.length*e.sz
   ·rw[if_pos hi,List.getElem?_drop,Array.getElem?_toList]at hx;exact hx
   ·rw[if_neg hi]at hx;cases hx⟩ hb
 refine⟨_,hle,R',.sl (by simp[Rho.upd];rfl) hc (.inr ⟨rfl,hsz⟩),fun h o l hg hl hk=> ?_⟩
 rw[GH.get_new]at hg
 by_cases e1:h=H.n
 ·rw[e1]at hl
  simp[Rho.upd]at hl
  subst hl
  exact hk.2 hF
 ·rw[if_neg e1]at hg
  simp only[Rho.upd,if_neg e1]at hl
  exact A h o l hg hl hk.1
theorem flat_ok {α:Type} {e:Enc α} {g:α->List GV} (hg:∀x,RlL ρ (g x) (e.enc x)):∀xs:List α,RlL ρ (xs.flatMap g) (cellsOf e xs)
 | []=> .nil
 |x::xs=>(hg x).append (flat_ok hg xs)
theorem impRows_ok {α:Type} {e:Enc α} {g:α->List GV} (hg:∀ρ x,RlL ρ (g x) (e.enc x)):∀(xss:List (List α)) (vs:List Value) (G:Nat->Nat->Prop) (B:Nat->Prop) (ρ:Rho) (H:GH),Rel w0 ρ H w->Apart ρ H B->(∀k,B k->w0.mine k)->vs.length=xss.length->
  (∀xs∈xss,xs≠[])->(∀i v xs,vs[i]? = some v->xss[i]? = some xs->ArR e w (G i) v xs)->(∀i k,G i k->B k)->(∀i j k,G i k->G j k->i=j)->
  ∃ρ',ρ.le ρ'∧Rel w0 ρ' (impRows e.sz g xss H).2 w∧RlL ρ' (impRows e.sz g xss H).1 vs∧Apart ρ' (impRows e.sz g xss H).2 (fun k=>B k∧∀i,¬G i k)
 | [],vs,G,B,ρ,H,R,A,hB,hl,_,h1,h2,h3=>by
  have:vs=[]:=List.eq_nil_of_length_eq_zero hl
  subst this
  exact⟨ρ,Rho.le_refl _,R,.nil,A.mono fun k hk=>hk.1⟩
 |xs::xss,[],G,B,ρ,H,R,A,hB,hl,_,h1,h2,h3=>by simp at hl
 |xs::xss,v::vs,G,B,ρ,H,R,A,hB,hl,hne,h1,h2,h3=>by
  obtain⟨ρ1,hle1,R1,hv,A1⟩:=import_ok R A hB (h2 0) (h1 0 v xs rfl rfl) (hne xs (by simp)) (flat_ok (hg ρ) xs)
  obtain⟨ρ2,hle2,R2,hvs,A2⟩:=impRows_ok hg xss vs (fun i=>G (i+1)) _ ρ1 _ R1 A1 (fun k hk=>hB k hk.1) (by simpa using hl) (fun y hy=>hne y (by simp[hy])) (fun i v' xs' hv' hx'=>h1 (i+1) v' xs' (by simpa using hv') (by simpa using hx')) (fun i k hk=>⟨h2 _ k hk,fun h0=>by have:=h3 _ _ k hk h0;omega⟩) (fun i j k hi hj=>by have:=h3 _ _ k hi hj;omega)
  refine⟨ρ2,Rho.le_trans hle1 hle2,R2,.cons (hv.le hle2) hvs,A2.mono fun k hk=>⟨⟨hk.1,hk.2 0⟩,fun i=>hk.2 (i+1)⟩⟩
theorem raw_cells:∀vs:List Value,cellsOf Enc.raw vs=vs
 | []=>rfl
 |v::vs=>by show v::cellsOf Enc.raw vs=_;rw[raw_cells vs]
end
end Go.Gx
end
section
namespace Go.Gx
open Go Go.Sx
section
variable {P:Program} {gs:Gls} {w0:Base gs} {w:World} {ρ:Rho} {H:GH}
theorem hook_plain {f:Nat} {vs:List Value} {L:List Fact} {V:Value} {g:GV} (hb:HasBody P f) (hm:Meets P f vs.toArray L (fun _:Unit=>V) (fun _ l=>l) (fun _ l=>l)) (R:Rel w0 ρ H w) (hL:∀h∈L,h.p w All) (hv:∀ρ,Rl ρ g V):CallSem P w0 ρ f vs w g H:=by
 refine .inr ⟨hb _ w,(hm w All hL).mono ?_⟩
 rintro e w' ⟨_,rfl,t⟩
 exact⟨V,ρ,rfl,Rho.le_refl _,R.ext' t.old.ext,hv _⟩
theorem hook_graph {α β:Type} {e:Enc α} {g:α->List GV} {e':Enc β} {g':β->List GV} (hg:∀ρ x,RlL ρ (g x) (e.enc x)) (hg':∀ρ x,RlL ρ (g' x) (e'.enc x)) {f:Nat} {vs:List Value} {L:List Fact} {r:List α×List (List β)} (h1:r.1≠[]) (h2:r.2≠[]) (h3:∀xs∈r.2,xs≠[]) (hb:HasBody P f)
  (hm:Meets P f vs.toArray L (fun x:Value×Value×List Value=>Value.agg #[x.1,x.2.1]) (fun x l=>Ar e x.1 r.1::Ar Enc.raw x.2.1 x.2.2::Rws e' x.2.2 r.2::l) (fun _ l=>l)) (R:Rel w0 ρ H w) (hL:∀h∈L,h.p w All):
  CallSem P w0 ρ f vs w (.agg [.sl H.n 0 r.1.length e.sz,.sl (impRows e'.sz g' r.2 (H.new (.cells (r.1.flatMap g)))).2.n 0 r.2.length 1]) ((impRows e'.sz g' r.2 (H.new (.cells (r.1.flatMap g)))).2.new (.cells (impRows e'.sz g' r.2 (H.new (.cells (r.1.flatMap g)))).1)):=by
 refine .inr ⟨hb _ w,(hm w All hL).mono ?_⟩
 rintro en w' ⟨x,rfl,t⟩
 obtain⟨F,O,_⟩:=t.own
 have q0:ArR _ w' (F 0) x.1 r.1:=O.res 0 _ rfl
 have q1:ArR Enc.raw w' (F 1) x.2.1 x.2.2:=O.res 1 _ rfl
 obtain⟨ql,G,q2,q3,q4⟩:(Rws e' x.2.2 r.2).p w' (F 2):=O.res 2 _ rfl
 have R':=R.ext' t.old.ext
 have hF:∀i k,F i k->w.heap.size<=k:=fun i k hk=>by
  rcases(O.rng i k hk).1 with h|h
  ·exact h
  ·exact h.elim
 obtain⟨ρ1,hle1,R1,hv1,A1⟩:=import_ok (B:=fun k=>w.heap.size<=k) R' (fun a o l h1 h2=>Apart.start R a o l h1 h2) (fun k hk=> .inl (Nat.le_trans R.ext.size hk)) (hF 0) q0 h1 (flat_ok (hg ρ) r.1)
 obtain⟨ρ2,hle2,R2,hv2,A2⟩:=impRows_ok hg' r.2 x.2.2 G _ ρ1 _ R1 A1 (fun k hk=> .inl (Nat.le_trans R.ext.size hk.1)) ql h3 q2 (fun i k hk=>⟨hF _ _ (q3 i k hk),fun h0=>by have:=O.dis _ _ k (q3 i k hk) h0;omega⟩) q4
 have hne:x.2.2≠[]:=fun h0=>by rw[h0]at ql;exact h2 (List.eq_nil_of_length_eq_zero ql.symm)
 obtain⟨ρ3,hle3,R3,hv3,_⟩:=import_ok (cs:=(impRows e'.sz g' r.2 (H.new (.cells (r.1.flatMap g)))).1) (F:=F 1) R2 A2 (fun k hk=> .inl (Nat.le_trans R.ext.size hk.1.1)) (fun k hk=>⟨⟨hF _ _ hk,fun h0=>by have:=O.dis _ _ k hk h0;omega⟩,fun i hi=>by have:=O.dis _ _ k hk (q3 i k hi);omega⟩) q1 hne (by rw[raw_cells];exact hv2)
 refine⟨_,ρ3,rfl,Rho.le_trans hle1 (Rho.le_trans hle2 hle3),R3,?_⟩
 refine Rl.agg' (vs:=[x.1,x.2.1]) (.cons ((hv1.le hle2).le hle3) (.cons (by rw[<-ql];exact hv3) .nil)) fun v hv=> ?_
 have one_of:∀{γ:Type} {e:Enc γ} {F:Nat->Prop} {v:Value} {xs:List γ},ArR e w' F v xs->one v=true:=fun h=>by
  obtain⟨_,_,h⟩:=h
  rcases h with⟨rfl,_⟩|⟨b,off,cap,T,cur,rfl,_⟩<;>rfl
 simp at hv
 rcases hv with rfl|rfl
 ·exact one_of q0
 ·exact one_of q1
end
noncomputable section
def dInts (H:GH) (v:GV):Option (List Int):=decS H 1 (dI .i64) v
def dPorts (H:GH) (v:GV):Option (List (List (Int×Int))):=decS H 1 (dS H 2 (dP 1 (dI .i64) (dI .i64))) v
def dConf (H:GH) (v:GV):Option (List (List Int)):=decS H 1 (dS H 1 (dI .i64)) v
def dGraph (H:GH) (v:GV):Option (List Int×List (List (Int×Int))):=ob v.asA fun cs=>List.casesOn (motive:=fun _=>Option (List Int×List (List (Int×Int)))) cs none fun a r=>List.casesOn (motive:=fun _=>Option (List Int×List (List (Int×Int)))) r none fun b r=>List.casesOn (motive:=fun _=>Option (List Int×List (List (Int×Int)))) r (ob (dInts H a) fun x=>ob (dPorts H b) fun y=>some (x,y)) fun _ _=>none
end
section
variable {P:Program} {gs:Gls} {w0:Base gs} {w:World} {ρ:Rho} {H:GH}
theorem dInts_ok (R:Rel w0 ρ H w) {v:GV} {V:Value} {xs:List Int} (hv:Rl ρ v V) (h:dInts H v=some xs):(Sl (Rep.int .i64) V xs).p w All:=by
 obtain⟨zs,rfl,hz⟩:=decS_ok R (Reads.int .i64) hv h
 rw[List.map_id]
 exact hz
theorem dConf_ok (R:Rel w0 ρ H w) {v:GV} {V:Value} {xs:List (List Int)} (hv:Rl ρ v V) (h:dConf H v=some xs):∃zs,(S2 (Rep.int .i64) V zs xs).p w All:=by
 obtain⟨zs,rfl,hz⟩:=decS_ok R (Reads.sl R (Reads.int .i64)) hv h
 exact⟨zs,hz,by simp⟩
theorem dPorts_ok (R:Rel w0 ρ H w) {v:GV} {V:Value} {xs:List (List (Int×Int))} (hv:Rl ρ v V) (h:dPorts H v=some xs):∃zs,(S2 (Rep.pair (Rep.int .i64) (Rep.int .i64)) V zs xs).p w All:=by
 obtain⟨zs,rfl,hz⟩:=decS_ok R (Reads.sl R (Reads.pair (Reads.int .i64) (Reads.int .i64))) hv h
 exact⟨zs,hz,by simp⟩
theorem dGraph_ok (R:Rel w0 ρ H w) {v:GV} {V:Value} {p:List Int×List (List (Int×Int))} (hv:Rl ρ v V) (h:dGraph H v=some p):∃v0 v1 z2,V = .agg #[v0,v1]∧(Sl (Rep.int .i64) v0 p.1).p w All∧(S2 (Rep.pair (Rep.int .i64) (Rep.int .i64)) v1 z2 p.2).p w All:=by
 obtain⟨cs,hcs,h⟩:=ob_some.1 (show ob v.asA _=some p from h)
 rw[asA_eq hcs]at hv
 obtain⟨vs,rfl,hr,_⟩:=hv.agg_inv
 cases cs with
 |nil=>cases h
 |cons a cs=>
 cases cs with
 |nil=>cases h
 |cons b cs=>
 cases cs with
 |cons _ _=>cases h
 |nil=>
 obtain⟨x,hx,h⟩:=ob_some.1 (show ob (dInts H a) _=some p from h)
 obtain⟨y,hy,h⟩:=ob_some.1 h
 cases h
 obtain⟨v0,vs,rfl,h0,hr⟩:=hr.of_cons
 obtain⟨v1,vs,rfl,h1,hr⟩:=hr.of_cons
 rw[hr.of_nil]
 obtain⟨z2,hz⟩:=dPorts_ok R h1 hy
 exact⟨v0,v1,z2,rfl,dInts_ok R h0 hx,hz⟩
end
end Go.Gx
end
section
namespace Go.Gx
open Go Go.Sx
noncomputable section
section
variable {α R:Type}
def a0 (us:List α) (k:Option R):Option R:=List.casesOn (motive:=fun _=>Option R) us k (fun _ _=>none)
def a1 (us:List α) (k:α->Option R):Option R:=List.casesOn (motive:=fun _=>Option R) us none fun a r=>a0 r (k a)
def a2 (us:List α) (k:α->α->Option R):Option R:=List.casesOn (motive:=fun _=>Option R) us none fun a r=>a1 r (k a)
def a3 (us:List α) (k:α->α->α->Option R):Option R:=List.casesOn (motive:=fun _=>Option R) us none fun a r=>a2 r (k a)
def a4 (us:List α) (k:α->α->α->α->Option R):Option R:=List.casesOn (motive:=fun _=>Option R) us none fun a r=>a3 r (k a)
def a5 (us:List α) (k:α->α->α->α->α->Option R):Option R:=List.casesOn (motive:=fun _=>Option R) us none fun a r=>a4 r (k a)
def a6 (us:List α) (k:α->α->α->α->α->α->Option R):Option R:=List.casesOn (motive:=fun _=>Option R) us none fun a r=>a5 r (k a)
theorem a0_some {us:List α} {k:Option R} {r:R} (h:a0 us k=some r):us=[]∧k=some r:=by
 cases us with
 |nil=>exact⟨rfl,h⟩
 |cons _ _=>cases h
theorem a1_some {us:List α} {k:α->Option R} {r:R} (h:a1 us k=some r):∃x,us=[x]∧k x=some r:=by
 cases us with
 |nil=>cases h
 |cons x us=>obtain⟨rfl,h⟩:=a0_some h;exact⟨x,rfl,h⟩
theorem a2_some {us:List α} {k:α->α->Option R} {r:R} (h:a2 us k=some r):∃x y,us=[x,y]∧k x y=some r:=by
 cases us with
 |nil=>cases h
 |cons x us=>obtain⟨y,rfl,h⟩:=a1_some h;exact⟨x,y,rfl,h⟩
theorem a3_some {us:List α} {k:α->α->α->Option R} {r:R} (h:a3 us k=some r):∃x y z,us=[x,y,z]∧k x y z=some r:=by
 cases us with
 |nil=>cases h
 |cons x us=>obtain⟨y,z,rfl,h⟩:=a2_some h;exact⟨x,y,z,rfl,h⟩
theorem a4_some {us:List α} {k:α->α->α->α->Option R} {r:R} (h:a4 us k=some r):∃x y z u,us=[x,y,z,u]∧k x y z u=some r:=by
 cases us with
 |nil=>cases h
 |cons x us=>obtain⟨y,z,u,rfl,h⟩:=a3_some h;exact⟨x,y,z,u,rfl,h⟩
theorem a5_some {us:List α} {k:α->α->α->α->α->Option R} {r:R} (h:a5 us k=some r):∃x y z u v,us=[x,y,z,u,v]∧k x y z u v=some r:=by
 cases us with
 |nil=>cases h
 |cons x us=>obtain⟨y,z,u,v,rfl,h⟩:=a4_some h;exact⟨x,y,z,u,v,rfl,h⟩
theorem a6_some {us:List α} {k:α->α->α->α->α->α->Option R} {r:R} (h:a6 us k=some r):∃x y z u v w,us=[x,y,z,u,v,w]∧k x y z u v w=some r:=by
 cases us with
 |nil=>cases h
 |cons x us=>obtain⟨y,z,u,v,w,rfl,h⟩:=a5_some h;exact⟨x,y,z,u,v,w,rfl,h⟩
end

def dSc (k:IntKind) (v:GV):Option Int:=ob v.asI fun p=>bif eqK p.1 k then some p.2 else none
def dU32s (H:GH) (v:GV):Option (List Int):=decS H 1 (dI .u32) v
def dNet (H:GH) (v:GV):Option (Int×List Int×List Int×List Int×Bool×Bool):=ob v.asA fun cs=>a6 cs fun a b c d e f=>ob (dSc .i64 a) fun n=>ob (dInts H b) fun x=>ob (dInts H c) fun y=>ob (dInts H d) fun z=>ob e.asB fun p=>ob f.asB fun q=>some (n,x,y,z,p,q)

def gI (n:Int):List GV:=[.int .i64 n]
def gP (p:Int×Int):List GV:=[.int .i64 p.1,.int .i64 p.2]
def fcI {R:Type} (l:List Int):(List Int->R)->R:=List.rec (motive:=fun _=>(List Int->R)->R) (fun k=>k []) (fun x _ ih k=>fi x fun x=>ih fun r=>k (x::r)) l
def fcP {R:Type} (l:List (Int×Int)):(List (Int×Int)->R)->R:=List.rec (motive:=fun _=>(List (Int×Int)->R)->R) (fun k=>k []) (fun x _ ih k=>fi x.1 fun a=>fi x.2 fun b=>ih fun r=>k ((a,b)::r)) l
def fcR {R:Type} (l:List (List (Int×Int))):(List (List (Int×Int))->R)->R:=List.rec (motive:=fun _=>(List (List (Int×Int))->R)->R) (fun k=>k []) (fun x _ ih k=>fcP x fun x=>ih fun r=>k (x::r)) l
theorem fcI_eq {R:Type}:∀(l:List Int) (k:List Int->R),fcI l k=k l
 | [],k=>rfl
 |x::l,k=>by
  show fi x (fun x=>fcI l fun r=>k (x::r))=_
  rw[fi_eq,fcI_eq l]
theorem fcP_eq {R:Type}:∀(l:List (Int×Int)) (k:List (Int×Int)->R),fcP l k=k l
 | [],k=>rfl
 |x::l,k=>by
  show fi x.1 (fun a=>fi x.2 fun b=>fcP l fun r=>k ((a,b)::r))=_
  rw[fi_eq,fi_eq,fcP_eq l]
theorem fcR_eq {R:Type}:∀(l:List (List (Int×Int))) (k:List (List (Int×Int))->R),fcR l k=k l
 | [],k=>rfl
 |x::l,k=>by
  show fcP x (fun x=>fcR l fun r=>k (x::r))=_
  rw[fcP_eq,fcR_eq l]
def oBool (b:Bool) (H:GH):OR:=Bool.casesOn (motive:=fun _=>OR) b (some (.bool false,H)) (some (.bool true,H))
def oGraph (r:List Int×List (List (Int×Int))) (H:GH):OR:=fcI r.1 fun x=>fcR r.2 fun y=>bif Nat.beq x.length 0 then none else bif Nat.beq y.length 0 then none else bif y.any fun l=>Nat.beq l.length 0 then none else
 fc (x.flatMap gI) fun l=>H.newK (.cells l) fun h H1=>fc (impRows 2 gP y H1).1 fun rs=>sn x.length fun n=>sn y.length fun m=>(impRows 2 gP y H1).2.newK (.cells rs) fun h2 H2=>some (.agg [.sl h 0 n 1,.sl h2 0 m 1],H2)
end
section
variable {P:Program} {gs:Gls} {w0:Base gs} {w:World} {ρ:Rho} {H H':GH} {g:GV}
theorem RlL.one {x:GV} {vs:List Value} (h:RlL ρ [x] vs):∃V,vs=[V]∧Rl ρ x V:=by
 obtain⟨v,vs,rfl,h1,h2⟩:=h.of_cons
 rw[h2.of_nil];exact⟨v,rfl,h1⟩
theorem dSc_ok {k:IntKind} {v:GV} {V:Value} {n:Int} (hv:Rl ρ v V) (h:dSc k v=some n):V = .int k n:=by
 obtain⟨p,hp,h⟩:=ob_some.1 (show ob v.asI _=some n from h)
 obtain⟨hk,h⟩:=bif_some.1 h
 cases h
 rw[asI_eq hp]at hv
 rw[hv.int_inv,eqK_eq hk]
theorem asB_ok {v:GV} {V:Value} {b:Bool} (hv:Rl ρ v V) (h:v.asB=some b):V = .bool b:=by
 rw[asB_eq h]at hv;exact hv.bool_inv
theorem dU32s_ok (R:Rel w0 ρ H w) {v:GV} {V:Value} {xs:List Int} (hv:Rl ρ v V) (h:dU32s H v=some xs):(Sl (Rep.int .u32) V xs).p w All:=by
 obtain⟨zs,rfl,hz⟩:=decS_ok R (Reads.int .u32) hv h
 rw[List.map_id]
 exact hz
theorem dNet_ok (R:Rel w0 ρ H w) {v:GV} {V:Value} {p:Int×List Int×List Int×List Int×Bool×Bool} (hv:Rl ρ v V) (h:dNet H v=some p):
  ∃v0 v1 v2,V = .agg #[.int .i64 p.1,v0,v1,v2,.bool p.2.2.2.2.1,.bool p.2.2.2.2.2]∧(Sl (Rep.int .i64) v0 p.2.1).p w All∧(Sl (Rep.int .i64) v1 p.2.2.1).p w All∧(Sl (Rep.int .i64) v2 p.2.2.2.1).p w All:=by
 obtain⟨cs,hcs,h⟩:=ob_some.1 (show ob v.asA _=some p from h)
 obtain⟨a,b,c,d,e,f,rfl,h⟩:=a6_some h
 obtain⟨n,hn,h⟩:=ob_some.1 h
 obtain⟨x,hx,h⟩:=ob_some.1 h
 obtain⟨y,hy,h⟩:=ob_some.1 h
 obtain⟨z,hz,h⟩:=ob_some.1 h
 obtain⟨q,hq,h⟩:=ob_some.1 h
 obtain⟨r,hr,h⟩:=ob_some.1 h
 cases h
 rw[asA_eq hcs]at hv
 obtain⟨vs,rfl,hl,_⟩:=hv.agg_inv
 obtain⟨va,vs,rfl,ha,hl⟩:=hl.of_cons
 obtain⟨vb,vs,rfl,hb,hl⟩:=hl.of_cons
 obtain⟨vc,vs,rfl,hc,hl⟩:=hl.of_cons
 obtain⟨vd,vs,rfl,hd,hl⟩:=hl.of_cons
 obtain⟨ve,vs,rfl,he,hl⟩:=hl.of_cons
 obtain⟨vf,rfl,hf⟩:=hl.one
 have e1:=dSc_ok ha hn
 have e2:=asB_ok he hq
 have e3:=asB_ok hf hr
 subst e1 e2 e3
 exact⟨vb,vc,vd,rfl,dInts_ok R hb hx,dInts_ok R hc hy,dInts_ok R hd hz⟩
theorem oBool_some {b:Bool} (h:oBool b H=some (g,H')):g = .bool b∧H'=H:=by
 cases b<;>cases h<;>exact⟨rfl,rfl⟩
theorem oGraph_some {r:List Int×List (List (Int×Int))} (h:oGraph r H=some (g,H')):r.1≠[]∧r.2≠[]∧(∀xs∈r.2,xs≠[])∧
  g = .agg [.sl H.n 0 r.1.length 1,.sl (impRows 2 gP r.2 (H.new (.cells (r.1.flatMap gI)))).2.n 0 r.2.length 1]∧H'=(impRows 2 gP r.2 (H.new (.cells (r.1.flatMap gI)))).2.new (.cells (impRows 2 gP r.2 (H.new (.cells (r.1.flatMap gI)))).1):=by
 unfold oGraph at h
 rw[fcI_eq,fcR_eq]at h
 obtain⟨h1,h⟩:=bif_some'.1 h
 obtain⟨h2,h⟩:=bif_some'.1 h
 obtain⟨h3,h⟩:=bif_some'.1 h
 rw[fc_eq,GH.newK_eq,fc_eq,sn_eq,sn_eq,GH.newK_eq]at h
 cases h
 refine⟨fun e=>(by rw[e]at h1;cases h1),fun e=>(by rw[e]at h2;cases h2),fun xs hx e=> ?_,rfl,rfl⟩
 have:=List.any_eq_false.1 h3 xs hx
 rw[e]at this
 exact this rfl
theorem gI_ok (ρ:Rho) (x:Int):RlL ρ (gI x) [.int .i64 x]:= .cons (.int _ _) .nil
theorem gP_ok (ρ:Rho) (x:Int×Int):RlL ρ (gP x) [.int .i64 x.1,.int .i64 x.2]:= .cons (.int _ _) (.cons (.int _ _) .nil)
def glb (b:Nat) (cs:List Value) (T:Nat):Gls:=[(b,.cells cs.toArray T (0,0))]
theorem glsOne {b:Nat} {cs:List Value} (w:World) (S:Nat->Prop) (h:∀h∈[Gb b cs],h.p w S):∃T,GlsOk (glb b cs T) w fun _=>False:=by
 obtain⟨_,T,hT⟩:=h _ (List.mem_singleton.2 rfl)
 exact⟨T,fun p hp=>by obtain rfl:=List.mem_singleton.1 hp;exact⟨hT,id⟩⟩
theorem Rel.glb {b:Nat} {cs:List Value} {T:Nat} {w1:Base (glb b cs T)} {w:World} {ρ:Rho} {H:GH} (R:Rel w1 ρ H w):(Gb b cs).p w All:=⟨trivial,T,(R.glo _ (List.mem_singleton.2 rfl)).1⟩
theorem meets_closed {gs:Nat->Gls} {f:Nat} {V:Value} {L:List Fact} (hL:∀w S,(∀h∈L,h.p w S)->∃T,GlsOk (gs T) w fun _=>False) (hb:HasBody P f) (hv:∀ρ V',Rl ρ g V'->V'=V) (h:∀T (b:Base (gs T)),CallSem P b (fun _=>none) f [] b.w g H'):Meets P f #[] L (fun _:Unit=>V) (fun _ l=>l) (fun _ l=>l):=by
 intro w0 S0 hw
 obtain⟨T,hT⟩:=hL w0 S0 hw
 rcases h T (.of w0 hT)with⟨v,w',ρ',hr,_⟩|⟨_,hc⟩
 ·have hq:=hb #[] w0
  rw[show([]:List Value).toArray = #[]from rfl]at hr
  rw[show(Base.of w0 hT).w=w0 from rfl,hq]at hr;cases hr
 ·refine hc.mono ?_
  rintro e w' ⟨v,ρ',rfl,_,R,hr⟩
  exact⟨(),by rw[hv _ _ hr],R.ext,fun _ _=>False,⟨fun i m hm=>by simp at hm,fun i k h=>h.elim,fun i j k h=>h.elim⟩,fun f hf=>by simp at hf⟩

section
variable {tb:TB} {T:TypeId}
theorem alloc_z (h:zeroOf tb T=some [z64]) (H:GH):vAlloc tb T H=some (.ptr H.n 0,H.new (.cells [z64])):=by
 unfold vAlloc
 rw[h]
 show H.newK (.cells [z64]) (fun h H'=>some (GV.ptr h 0,H'))=_
 rw[GH.newK_eq]
theorem store_z {t:Ty} (h:tb T=some t) (hs:t.size=1) (H:GH) (k:Nat) (c:GV) (hc:GH.cells H k=some [c]):vStore tb T (.ptr k 0) z64 H=some (.un,H.set k (.cells [z64])):=by
 show ob (H.cells k) (fun cs=>ob (tb T) fun t=>bif Nat.beq 1 t.size then bif Nat.beq t.size 0 then none else ob (gput [z64] 0 cs) fun cs'=>H.setK k (.cells cs') fun H'=>some (GV.un,H')else none)=_
 rw[hc,h]
 show(bif Nat.beq 1 t.size then bif Nat.beq t.size 0 then none else ob (gput [z64] 0 [c]) fun cs'=>H.setK k (.cells cs') fun H'=>some (GV.un,H')else none)=_
 rw[hs]
 show H.setK k (.cells [z64]) (fun H'=>some (GV.un,H'))=_
 rw[GH.setK_eq]
theorem load_z {t:Ty} (h:tb T=some t) (ha:aggD t.desc=false) (H:GH) (k:Nat) (hc:GH.cells H k=some [z64]):vLoad tb T (.ptr k 0) H=some z64:=by
 show ob (H.cells k) (fun cs=>ob (tb T) fun t=>ofCells t cs 0)=_
 rw[hc,h]
 show ofCells t [z64] 0=_
 unfold ofCells
 rw[ha];rfl
end
def bodyOps (fn:Func):List Oper:=match fn.body with
 |some (.seq (.region _ ops _) _)=>ops.toList
 |_=>[]
def bodyRest (fn:Func):Code:=match fn.body with
 |some (.seq _ c)=>c
 |_=> .skip
def bodyDst (fn:Func):Nat:=match bodyOps fn with
 |o::_=>o.dst.getD 0
 | []=>0
def okN (r:RS):Bool:=match r with
 |some o=>match o.e with
  | .normal=>true
  |_=>false
 |none=>false
theorem okN_spec {r:RS} (h:okN r=true):∃out,r=some out∧out.e = .normal:=by
 unfold okN at h
 cases r with
 |none=>cases h
 |some o=>
  refine⟨o,rfl,?_⟩
  cases he:o.e<;>simp only[he]at h<;>first|rfl|cases h
def okT (r:OR):Bool:=match r with
 |some (.bool true,_)=>true
 |_=>false
theorem okT_spec {r:OR} (h:okT r=true):∃H',r=some (.bool true,H'):=by
 unfold okT at h
 split at h
 ·exact⟨_,rfl⟩
 ·cases h
end
end Go.Gx
end
section
namespace Go.Proofs.YtfbkplemadmbfaaGreatDoor
open Go.Sx
def world_Within_k1  (a4:Int):Option (Int):=
 some (a4)
def m_world_Within (fuel:Nat) (p0:Int) (p1:Int):Option (Int):=
 if p1<(1:Int)then(some (0:Int))else(ck (p1≠0) (if(Int.tmod p0 p1)<(0:Int)then(world_Within_k1  (wI .i64 ((Int.tmod p0 p1)+p1)))else(world_Within_k1  (Int.tmod p0 p1))))
theorem body64:HasBody Tryz.prog 64:=Tryz.call64
theorem t_world_Within (fuel:Nat) {p0:Int} {p1:Int} (r:Int) (h:m_world_Within fuel p0 p1=some r):
  Meets Tryz.prog 64 #[Value.int .i64 (p0),Value.int .i64 (p1)] [] (fun x:Unit=>Value.int .i64 (r)) (fun x l=>l) (fun _ l=>l):=by
 refine Meets.of (vs:=[Value.int .i64 (p0),Value.int .i64 (p1)]) Tryz.func64 rfl Tryz.ntmps64 rfl fun c=> ?_
 unfold m_world_Within at h
 refine J.seq<|J.region<|J.quiet (Y.assign rfl) rfl<|J.done<|J.thenN<|J.seq<|J.seq<|J.region<|J.quiet (Y.move rfl) rfl<|J.quiet (Y.lss rfl rfl) rfl<|J.done<|J.thenN ?_
 refine J.condD (by exact rfl) (fun hp1=> ?_) (fun hp1=> ?_)
 ·have h:=ifP hp1 h
  refine J.seq<|J.region<|J.quiet (Y.assign rfl) rfl<|J.done<|J.thenN<|J.ret<|J.thenR ?_
  obtain rfl:=Option.some.inj h
  exact J.retG1 (()) rfl rfl (RV.tmp rfl) (SubM.refl _) LentAll.nil
 ·have h:=ifN hp1 h
  refine J.skip<|J.thenN<|J.seq<|J.region<|J.quiet (Y.move rfl) rfl<|J.quiet (Y.move rfl) rfl ?_
  have h:=ck_some h;obtain⟨hc2,h⟩:=h
  refine J.quiet (Y.rem rfl rfl hc2) rfl<|J.quiet (Y.assign rfl) rfl<|J.done<|J.thenN<|J.seq<|J.midI (A:=Int) (B:=Unit) (fun a4=>world_Within_k1  a4=some r) (fun a4 b5=>[(0,Value.int .i64 (a4))]) (fun a4 b5=>[]) (fun a4 b5=>[]) ?_ ?_
  ·refine J.seq<|J.region<|J.quiet (Y.move rfl) rfl<|J.quiet (Y.lss rfl rfl) rfl<|J.done<|J.thenN ?_
   refine J.condD (by exact rfl) (fun hp6=> ?_) (fun hp6=> ?_)
   ·have h:=ifP hp6 h
    refine J.region<|J.quiet (Y.move rfl) rfl<|J.quiet (Y.move rfl) rfl<|J.quiet (Y.addW rfl rfl) rfl<|J.quiet (Y.assign rfl) rfl<|J.done<|J.thenN ?_
    exact J.meetI (wI .i64 ((Int.tmod p0 p1)+p1)) (()) h SF (SubM.refl _) (LentAll.refl _ _)
   ·have h:=ifN hp6 h
    refine J.skip<|J.thenN ?_
    exact J.meetI (Int.tmod p0 p1) (()) h SF (SubM.refl _) (LentAll.refl _ _)
  ·clear h
   intro a4 b5 h
   unfold world_Within_k1 at h
   refine J.seq<|J.region<|J.quiet (Y.move rfl) rfl<|J.quiet (Y.assign rfl) rfl<|J.done<|J.thenN<|J.ret ?_
   obtain rfl:=Option.some.inj h
   exact J.retG1 (()) rfl rfl (RV.tmp rfl) (SubM.refl _) LentAll.nil
end Go.Proofs.YtfbkplemadmbfaaGreatDoor
end
section
namespace Go.Proofs.YtfbkplemadmbfaaGreatDoor
open Go.Sx
def m_world_at (fuel:Nat) (p0:List (Int)) (p1:Int):Option (Int):=
 if p1<(List.length p0:Int)then(ck (0<=p1∧p1<(List.length p0:Int)) (some (at' p0 p1)))else(some (0:Int))
theorem body65:HasBody Tryz.prog 65:=Tryz.call65
theorem t_world_at (fuel:Nat) {p0:List (Int)} {p1:Int} (v0:Value) (r:Int) (h:m_world_at fuel p0 p1=some r):
  Meets Tryz.prog 65 #[v0,Value.int .i64 (p1)] [Sl RI64 v0 p0] (fun x:Unit=>Value.int .i64 (r)) (fun x l=>l) (fun _ l=>l):=by
 refine Meets.of (vs:=[v0,Value.int .i64 (p1)]) Tryz.func65 rfl Tryz.ntmps65 rfl fun c=> ?_
 unfold m_world_at at h
 refine J.seq<|J.region<|J.quiet (Y.assign rfl) rfl<|J.done<|J.thenN<|J.seq<|J.seq<|J.region<|J.quiet (Y.move rfl) rfl<|J.quiet (Y.move rfl) rfl<|J.quiet (Y.lenS rfl (Lent.fact 0 rfl) rfl) rfl<|J.quiet (Y.lss rfl rfl) rfl<|J.done<|J.thenN ?_
 refine J.condD (by exact rfl) (fun hp1=> ?_) (fun hp1=> ?_)
 ·have h:=ifP hp1 h
  refine J.seq<|J.region<|J.quiet (Y.move rfl) rfl<|J.quiet (Y.move rfl) rfl ?_
  have h:=ck_some h;obtain⟨hc2,h⟩:=h
  refine J.quiet (Y.indexS rfl rfl (Lent.fact 0 rfl) rfl rfl hc2) rfl<|J.quiet (Y.loadS0 rfl (Lent.fact 0 rfl) rfl rfl rfl RI64c0 hc2) rfl<|J.quiet (Y.assign rfl) rfl<|J.done<|J.thenN<|J.ret<|J.thenR ?_
  obtain rfl:=Option.some.inj h
  exact J.retG1 (()) rfl rfl (RV.tmp rfl) (SubM.refl _) LentAll.nil
 ·have h:=ifN hp1 h
  refine J.skip<|J.thenN<|J.seq<|J.region<|J.quiet (Y.assign rfl) rfl<|J.done<|J.thenN<|J.ret ?_
  obtain rfl:=Option.some.inj h
  exact J.retG1 (()) rfl rfl (RV.tmp rfl) (SubM.refl _) LentAll.nil
end Go.Proofs.YtfbkplemadmbfaaGreatDoor
end
section
namespace Go.Proofs.YtfbkplemadmbfaaGreatDoor
open Go.Sx
def _world_Net__nodes_k1 (r3:Int) (a13:List (Int)):Option ((List (Int)×(List (List (Int×Int))))):=
 some ((a13,(List.replicate (Int.toNat (wI .i64 ((1:Int)+r3))) ([]:List (Int×Int)))))
def _world_Net__nodes_k2 (a21:Int×List (Int)) (ag20:(Int×List (Int))->Option ((List (Int)×(List (List (Int×Int)))))) (a32:Int):Option ((List (Int)×(List (List (Int×Int))))):=
 ck ((List.length a21.2:Int)+(List.length ([a32]):Int)<=1099511627) (ag20 ((wI .i64 (a21.1+(1:Int))),(a21.2++[a32])))
def _world_Net__nodes_k3 (ag40:(Int×Int)->Option ((List (Int)×(List (List (Int×Int)))))) (a47:Int×Int):Option ((List (Int)×(List (List (Int×Int))))):=
 ag40 (a47.1,(wI .i64 (a47.2+(1:Int))))
def _world_Net__nodes_s2 (a21:Int×List (Int)) (ag20:(Int×List (Int))->Option ((List (Int)×(List (List (Int×Int)))))) (a41:Int×Int) (ag40:(Int×Int)->Option ((List (Int)×(List (List (Int×Int)))))):Option ((List (Int)×(List (List (Int×Int))))):=
 if a41.2<a21.1 then(ck (0<=a41.2∧a41.2<(List.length a21.2:Int)) (if(at' a21.2 a41.2)=a41.1 then(ck ((256:Int)≠0) (_world_Net__nodes_k3 ag40 ((Int.tmod (wI .i64 (a41.1+(1:Int))) (256:Int)),(-1:Int))))else(_world_Net__nodes_k3 ag40 (a41.1,a41.2))))else(_world_Net__nodes_k2 a21 ag20 (a41.1))
def _world_Net__nodes_s1 (fuel:Nat) (p0:Int×List (Int)×List (Int)×List (Int)×Bool×Bool) (r3:Int) (a21:Int×List (Int)) (ag20:(Int×List (Int))->Option ((List (Int)×(List (List (Int×Int)))))):Option ((List (Int)×(List (List (Int×Int))))):=
 if a21.1<(wI .i64 ((1:Int)+r3))then(Option.bind (m_world_at fuel p0.2.2.2.1 a21.1) fun r25=>(Option.bind (m_world_Within fuel r25 (256:Int)) fun r28=>(iter (_world_Net__nodes_s2 a21 ag20) fuel (r28,(0:Int)))))else(_world_Net__nodes_k1 r3 (a21.2))
def m__world_Net__nodes (fuel:Nat) (p0:Int×List (Int)×List (Int)×List (Int)×Bool×Bool) (p1:Int):Option ((List (Int)×(List (List (Int×Int))))):=
 Option.bind (m_world_Within fuel (wI .i64 (p0.1 - (1:Int))) p1) fun r3=>(ck (0<=(wI .i64 ((1:Int)+r3))∧(wI .i64 ((1:Int)+r3))<=1099511627) (iter (_world_Net__nodes_s1 fuel p0 r3) fuel ((0:Int),([]:List Int))))
theorem body62:HasBody Tryz.prog 62:=Tryz.call62
theorem t__world_Net__nodes (fuel:Nat) {p0:Int×List (Int)×List (Int)×List (Int)×Bool×Bool} {p1:Int} (v0:Value)  (v1:Value)  (v2:Value) (r:(List (Int)×(List (List (Int×Int))))) (h:m__world_Net__nodes fuel p0 p1=some r):
  Meets Tryz.prog 62 #[Value.agg #[Value.int .i64 (p0.1),v0,v1,v2,Value.bool (p0.2.2.2.2.1),Value.bool (p0.2.2.2.2.2)],Value.int .i64 (p1)] [Sl RI64 v0 p0.2.1,Sl RI64 v1 p0.2.2.1,Sl RI64 v2 p0.2.2.2.1] (fun x:Value×Value×List Value=>Value.agg #[x.1,x.2.1]) (fun x l=>Ar EI64 x.1 r.1::Ar Enc.raw x.2.1 x.2.2::Rws EI64I64p x.2.2 r.2::l) (fun _ l=>l):=by
 refine Meets.of (vs:=[Value.agg #[Value.int .i64 (p0.1),v0,v1,v2,Value.bool (p0.2.2.2.2.1),Value.bool (p0.2.2.2.2.2)],Value.int .i64 (p1)]) Tryz.func62 rfl Tryz.ntmps62 rfl fun c=> ?_
 unfold m__world_Net__nodes at h
 refine J.seq<|J.region<|J.loud (Loud.box (cs:=[Value.int .i64 (p0.1),v0,v1,v2,Value.bool (p0.2.2.2.2.1),Value.bool (p0.2.2.2.2.2)]) rfl rfl) rfl fun b1=>J.loud (Loud.alloc (cs:=[Value.slice none 0 0,Value.slice none 0 0]) rfl rfl) rfl fun b2=>J.done<|J.thenN<|J.seq<|J.region<|J.quiet (Y.fieldB rfl rfl rfl rfl rfl) rfl<|J.quiet (Y.loadB 1 rfl rfl rfl rfl rfl) rfl<|J.quiet (Y.subW rfl rfl) rfl<|J.quiet (Y.move rfl) rfl ?_
 have h:=bnd h;obtain⟨r3,hr4,h⟩:=h
 refine J.loud (Loud.callL body64 (t_world_Within fuel  r3 hr4) rfl .nil (fun _ _=>rfl)) rfl fun x5=>J.quiet (Y.addW rfl rfl) rfl<|J.quiet (Y.assign rfl) rfl<|J.done<|J.thenN<|J.seq<|J.region<|J.quiet (Y.move rfl) rfl ?_
 have h:=ck_some h;obtain⟨hc6,h⟩:=h
 refine J.stp (Stp.rowsNew EI64I64p (Int.toNat (wI .i64 ((1:Int)+r3))))<|J.loud (Loud.makeS (e:=Enc.raw) (Value.slice none 0 0) rfl rfl rfl rfl hc6 rfl rfl rfl) rfl fun u7=>J.know (Know.one (Lent.sl (Lent.rows (i:=0) (j:=1) rfl rfl FI64I64p))) fun ho8=> ?_
 refine J.quiet (Y.bld1 (r:=Value.agg #[Value.slice none 0 0,u7]) rfl (by intro w;simp[Instr.build,Instr.fill,cells_intV,cells_boolV,cells_sliceV,cells_ptrV,cells_strV,cells_funcV,cells_agg,one_cells ho8])) rfl ?_
 refine J.loud (Loud.alloc (cs:=[Value.slice none 0 0,Value.slice none 0 0]) rfl rfl) rfl fun b9=>J.know (Know.one (Lent.sl (Lent.rows (i:=1) (j:=2) rfl rfl FI64I64p))) fun ho10=>J.storeAll 0 (vs:=[Value.slice none 0 0,u7]) rfl rfl (all1 rfl (all1 ho10 rfl)) rfl rfl rfl<|J.done<|J.thenN<|J.seq<|J.midI (A:=List (Int)) (B:=Value) (fun a13=>_world_Net__nodes_k1 r3 a13=some r) (fun a13 b14=>[(4,Value.pointer (some ⟨b2,0,none⟩)),(6,Value.pointer (some ⟨b9,0,none⟩))]) (fun a13 b14=>[Blk b9 [b14,u7] 25,Ar Enc.raw u7 (List.replicate (Int.toNat (wI .i64 ((1:Int)+r3))) (Value.slice none 0 0)),Rws EI64I64p (List.replicate (Int.toNat (wI .i64 ((1:Int)+r3))) (Value.slice none 0 0)) (List.replicate (Int.toNat (wI .i64 ((1:Int)+r3))) ([]:List (Int×Int))),Blk b2 [Value.slice none 0 0,Value.slice none 0 0] 25,Ar EI64 b14 a13]) (fun a13 b14=>[Sl RI64 v0 p0.2.1,Sl RI64 v1 p0.2.2.1,Sl RI64 v2 p0.2.2.2.1]) ?_ ?_
 ·refine J.seq<|J.region<|J.quiet (Y.assign rfl) rfl<|J.done<|J.thenN<|J.block<|J.stp (Stp.nilAr EI64)<|J.loopI (A:=Int×List (Int)) (B:=Value) (_world_Net__nodes_s1 fuel p0 r3) (fun a21 b22=>[(2,Value.pointer (some ⟨b1,0,none⟩)),(4,Value.pointer (some ⟨b2,0,none⟩)),(5,Value.int .i64 (wI .i64 ((1:Int)+r3))),(6,Value.pointer (some ⟨b9,0,none⟩)),(7,Value.int .i64 (a21.1))]) (fun a21 b22=>[Blk b9 [b22,u7] 25,Ar Enc.raw u7 (List.replicate (Int.toNat (wI .i64 ((1:Int)+r3))) (Value.slice none 0 0)),Rws EI64I64p (List.replicate (Int.toNat (wI .i64 ((1:Int)+r3))) (Value.slice none 0 0)) (List.replicate (Int.toNat (wI .i64 ((1:Int)+r3))) ([]:List (Int×Int))),Blk b2 [Value.slice none 0 0,Value.slice none 0 0] 25,Blk b1 [Value.int .i64 (p0.1),v0,v1,v2,Value.bool (p0.2.2.2.2.1),Value.bool (p0.2.2.2.2.2)] 38,Ar EI64 b22 a21.2]) (fun a21 b22=>[Sl RI64 v0 p0.2.1,Sl RI64 v1 p0.2.2.1,Sl RI64 v2 p0.2.2.2.1]) ((0:Int),([]:List Int)) (Value.slice none 0 0) h SF (SubM.cons 1 rfl (SubM.cons 1 rfl (SubM.cons 1 rfl (SubM.cons 1 rfl (SubM.cons 1 rfl (SubM.cons 0 rfl (SubM.nil))))))) (LentAll.refl _ _) ?_
  clear h
  intro k23 a21 b22 h
  unfold _world_Net__nodes_s1 at h
  refine J.seq<|J.seq<|J.region<|J.quiet (Y.move rfl) rfl<|J.quiet (Y.move rfl) rfl<|J.quiet (Y.lss rfl rfl) rfl<|J.done<|J.thenN ?_
  refine J.condD (by exact rfl) (fun hp24=> ?_) (fun hp24=> ?_)
  ·have h:=ifP hp24 h
   refine J.skip<|J.thenN<|J.seq<|J.block<|J.seq<|J.region<|J.quiet (Y.fieldB rfl rfl rfl rfl rfl) rfl<|J.quiet (Y.loadB 4 rfl rfl rfl rfl rfl) rfl<|J.quiet (Y.move rfl) rfl ?_
   have h:=bnd h;obtain⟨r25,hr26,h⟩:=h
   refine J.loud (Loud.callL body65 (t_world_at fuel v2 r25 hr26) rfl (LentAll.cons (Lent.fact 2 rfl) .nil) (fun _ _=>rfl)) rfl fun x27=> ?_
   have h:=bnd h;obtain⟨r28,hr29,h⟩:=h
   refine J.loud (Loud.callL body64 (t_world_Within fuel  r28 hr29) rfl .nil (fun _ _=>rfl)) rfl fun x30=>J.quiet (Y.assign rfl) rfl<|J.done<|J.thenN<|J.seq<|J.midI (A:=Int) (B:=Unit) (fun a32=>_world_Net__nodes_k2 a21 (iter (_world_Net__nodes_s1 fuel p0 r3) k23) a32=some r) (fun a32 b33=>[(2,Value.pointer (some ⟨b1,0,none⟩)),(4,Value.pointer (some ⟨b2,0,none⟩)),(5,Value.int .i64 (wI .i64 ((1:Int)+r3))),(6,Value.pointer (some ⟨b9,0,none⟩)),(7,Value.int .i64 (a21.1)),(8,Value.int .i64 (a32))]) (fun a32 b33=>[Blk b9 [b22,u7] 25,Ar Enc.raw u7 (List.replicate (Int.toNat (wI .i64 ((1:Int)+r3))) (Value.slice none 0 0)),Rws EI64I64p (List.replicate (Int.toNat (wI .i64 ((1:Int)+r3))) (Value.slice none 0 0)) (List.replicate (Int.toNat (wI .i64 ((1:Int)+r3))) ([]:List (Int×Int))),Blk b2 [Value.slice none 0 0,Value.slice none 0 0] 25,Blk b1 [Value.int .i64 (p0.1),v0,v1,v2,Value.bool (p0.2.2.2.2.1),Value.bool (p0.2.2.2.2.2)] 38,Ar EI64 b22 a21.2]) (fun a32 b33=>[Sl RI64 v0 p0.2.1,Sl RI64 v1 p0.2.2.1,Sl RI64 v2 p0.2.2.2.1]) ?_ ?_
   ·refine J.seq<|J.region<|J.quiet (Y.assign rfl) rfl<|J.done<|J.thenN<|J.block<|J.loopI (A:=Int×Int) (B:=Unit) (_world_Net__nodes_s2 a21 (iter (_world_Net__nodes_s1 fuel p0 r3) k23)) (fun a41 b42=>[(2,Value.pointer (some ⟨b1,0,none⟩)),(4,Value.pointer (some ⟨b2,0,none⟩)),(5,Value.int .i64 (wI .i64 ((1:Int)+r3))),(6,Value.pointer (some ⟨b9,0,none⟩)),(7,Value.int .i64 (a21.1)),(8,Value.int .i64 (a41.1)),(9,Value.int .i64 (a41.2))]) (fun a41 b42=>[Blk b9 [b22,u7] 25,Ar Enc.raw u7 (List.replicate (Int.toNat (wI .i64 ((1:Int)+r3))) (Value.slice none 0 0)),Rws EI64I64p (List.replicate (Int.toNat (wI .i64 ((1:Int)+r3))) (Value.slice none 0 0)) (List.replicate (Int.toNat (wI .i64 ((1:Int)+r3))) ([]:List (Int×Int))),Blk b2 [Value.slice none 0 0,Value.slice none 0 0] 25,Blk b1 [Value.int .i64 (p0.1),v0,v1,v2,Value.bool (p0.2.2.2.2.1),Value.bool (p0.2.2.2.2.2)] 38,Ar EI64 b22 a21.2]) (fun a41 b42=>[Sl RI64 v0 p0.2.1,Sl RI64 v1 p0.2.2.1,Sl RI64 v2 p0.2.2.2.1]) (r28,(0:Int)) (()) h SF (SubM.refl _) (LentAll.refl _ _) ?_
    clear h
    intro k43 a41 b42 h
    unfold _world_Net__nodes_s2 at h
    refine J.seq<|J.seq<|J.region<|J.quiet (Y.move rfl) rfl<|J.quiet (Y.move rfl) rfl<|J.quiet (Y.lss rfl rfl) rfl<|J.done<|J.thenN ?_
    refine J.condD (by exact rfl) (fun hp44=> ?_) (fun hp44=> ?_)
    ·have h:=ifP hp44 h
     refine J.skip<|J.thenN<|J.seq<|J.midI (A:=Int×Int) (B:=Unit) (fun a47=>_world_Net__nodes_k3 (iter (_world_Net__nodes_s2 a21 (iter (_world_Net__nodes_s1 fuel p0 r3) k23)) k43) a47=some r) (fun a47 b48=>[(2,Value.pointer (some ⟨b1,0,none⟩)),(4,Value.pointer (some ⟨b2,0,none⟩)),(5,Value.int .i64 (wI .i64 ((1:Int)+r3))),(6,Value.pointer (some ⟨b9,0,none⟩)),(7,Value.int .i64 (a21.1)),(8,Value.int .i64 (a47.1)),(9,Value.int .i64 (a47.2))]) (fun a47 b48=>[Blk b9 [b22,u7] 25,Ar Enc.raw u7 (List.replicate (Int.toNat (wI .i64 ((1:Int)+r3))) (Value.slice none 0 0)),Rws EI64I64p (List.replicate (Int.toNat (wI .i64 ((1:Int)+r3))) (Value.slice none 0 0)) (List.replicate (Int.toNat (wI .i64 ((1:Int)+r3))) ([]:List (Int×Int))),Blk b2 [Value.slice none 0 0,Value.slice none 0 0] 25,Blk b1 [Value.int .i64 (p0.1),v0,v1,v2,Value.bool (p0.2.2.2.2.1),Value.bool (p0.2.2.2.2.2)] 38,Ar EI64 b22 a21.2]) (fun a47 b48=>[Sl RI64 v0 p0.2.1,Sl RI64 v1 p0.2.2.1,Sl RI64 v2 p0.2.2.2.1]) ?_ ?_
     ·refine J.block<|J.seq<|J.region<|J.quiet (Y.fieldB rfl rfl rfl rfl rfl) rfl<|J.quiet (Y.loadB 0 rfl rfl rfl rfl rfl) rfl<|J.quiet (Y.move rfl) rfl ?_
      have h:=ck_some h;obtain⟨hc49,h⟩:=h
      refine J.quiet (Y.indexS rfl rfl (Lent.ar (Lent.res 5 rfl) FI64) rfl rfl hc49) rfl<|J.quiet (Y.loadS0 rfl (Lent.ar (Lent.res 5 rfl) FI64) rfl rfl rfl RI64c0 hc49) rfl<|J.quiet (Y.move rfl) rfl<|J.quiet (Y.eql rfl rfl) rfl<|J.done<|J.thenN ?_
      refine J.condD (by exact rfl) (fun hp50=> ?_) (fun hp50=> ?_)
      ·have h:=ifP hp50 h
       refine J.region<|J.quiet (Y.move rfl) rfl<|J.quiet (Y.addW rfl rfl) rfl ?_
       have h:=ck_some h;obtain⟨hc51,h⟩:=h
       refine J.quiet (Y.rem rfl rfl hc51) rfl<|J.quiet (Y.assign rfl) rfl<|J.quiet (Y.assign rfl) rfl<|J.done<|J.inN<|J.thenN ?_
       exact J.meetI ((Int.tmod (wI .i64 (a41.1+(1:Int))) (256:Int)),(-1:Int)) (()) h SF (SubM.refl _) (LentAll.refl _ _)
      ·have h:=ifN hp50 h
       refine J.skip<|J.inN<|J.thenN ?_
       exact J.meetI (a41.1,a41.2) (()) h SF (SubM.refl _) (LentAll.refl _ _)
     ·clear h
      intro a47 b48 h
      unfold _world_Net__nodes_k3 at h
      refine J.region<|J.quiet (Y.move rfl) rfl<|J.quiet (Y.addW rfl rfl) rfl<|J.quiet (Y.assign rfl) rfl<|J.done<|J.thenN ?_
      exact J.againI (a47.1,(wI .i64 (a47.2+(1:Int)))) (()) h SF (SubM.refl _) (LentAll.refl _ _)
    ·have h:=ifN hp44 h
     refine J.exit<|J.thenX<|J.thenX<|J.inX<|J.thenN ?_
     exact J.meetI (a41.1) (()) h SF (SubM.refl _) (LentAll.refl _ _)
   ·clear h
    intro a32 b33 h
    unfold _world_Net__nodes_k2 at h
    refine J.region<|J.quiet (Y.fieldB rfl rfl rfl rfl rfl) rfl<|J.quiet (Y.loadB 0 rfl rfl rfl rfl rfl) rfl<|J.quiet (Y.move rfl) rfl<|J.loud (Loud.buildS (e:=EI64) ([a32]) [(0,Value.int .i64 (a32))] rfl rfl rfl rfl (fill_1_1 (Value.int .i64 (a32)) rfl) rfl rfl rfl) rfl fun u34=> ?_
    have h:=ck_some h;obtain⟨hc36,h⟩:=h
    refine J.loud (Loud.appendL 6 FI64 rfl rfl rfl (Lent.ar (Lent.res 0 rfl) FI64) rfl rfl rfl rfl hc36 rfl) rfl fun u35=>J.quiet (Y.fieldB rfl rfl rfl rfl rfl) rfl<|J.know (Know.one ((Lent.ar (Lent.res 6 rfl) FI64))) fun ho37=>J.store1 1 rfl rfl ho37 rfl rfl rfl<|J.done<|J.inN<|J.thenN<|J.region<|J.quiet (Y.move rfl) rfl<|J.quiet (Y.addW rfl rfl) rfl<|J.quiet (Y.assign rfl) rfl<|J.done<|J.thenN ?_
    exact J.againI ((wI .i64 (a21.1+(1:Int))),(a21.2++[a32])) (u35) h SF (SubM.cons 1 rfl (SubM.cons 1 rfl (SubM.cons 1 rfl (SubM.cons 1 rfl (SubM.cons 1 rfl (SubM.cons 1 rfl (SubM.nil))))))) (LentAll.refl _ _)
  ·have h:=ifN hp24 h
   refine J.exit<|J.thenX<|J.thenX<|J.inX<|J.thenN ?_
   exact J.meetI (a21.2) (b22) h SF (SubM.cons 0 rfl (SubM.cons 0 rfl (SubM.cons 0 rfl (SubM.cons 0 rfl (SubM.cons 1 rfl (SubM.nil)))))) (LentAll.refl _ _)
 ·clear h
  intro a13 b14 h
  unfold _world_Net__nodes_k1 at h
  refine J.seq<|J.region<|J.quiet (Y.loadBAll 0 rfl rfl rfl rfl) rfl<|J.know (Know.one ((Lent.ar (Lent.res 4 rfl) FI64))) fun ho15=>J.know (Know.one (Lent.sl (Lent.rows (i:=1) (j:=2) rfl rfl FI64I64p))) fun ho16=>J.storeAll 3 (vs:=[b14,u7]) rfl rfl (all1 ho15 (all1 ho16 rfl)) rfl rfl rfl<|J.done<|J.thenN<|J.ret ?_
  obtain rfl:=Option.some.inj h
  exact J.retG1 (b14,u7,(List.replicate (Int.toNat (wI .i64 ((1:Int)+r3))) (Value.slice none 0 0))) rfl rfl (RV.cell 3 rfl rfl rfl rfl) (SubM.cons 4 rfl (SubM.cons 1 rfl (SubM.cons 1 rfl (SubM.nil)))) LentAll.nil
end Go.Proofs.YtfbkplemadmbfaaGreatDoor
end
section
namespace Go.Proofs.YtfbkplemadmbfaaGreatDoor
open Go.Sx
def world_linked_k1  (a2:Unit):Option (Bool):=
 some (false)
def world_linked_s1 (p0:List (Int)×(List (List (Int×Int)))) (p1:Int) (p2:Int) (a6:Int) (ag5:(Int)->Option (Bool)):Option (Bool):=
 ck (0<=p1∧p1<(List.length p0.2:Int)) (if a6<(List.length (at' p0.2 p1):Int)then(ck (0<=p1∧p1<(List.length p0.2:Int)) (ck (0<=a6∧a6<(List.length (at' p0.2 p1):Int)) (if((at' (at' p0.2 p1) a6).1)=p2 then(some (true))else(ag5 (wI .i64 (a6+(1:Int)))))))else(world_linked_k1  (())))
def m_world_linked (fuel:Nat) (p0:List (Int)×(List (List (Int×Int)))) (p1:Int) (p2:Int):Option (Bool):=
 iter (world_linked_s1 p0 p1 p2) fuel (0:Int)
theorem body93:HasBody Tryz.prog 93:=Tryz.call93
theorem t_world_linked (fuel:Nat) {p0:List (Int)×(List (List (Int×Int)))} {p1:Int} {p2:Int} (v0:Value)  (v1:Value)  (z2:List (Value×List (Int×Int))) (r:Bool) (h:m_world_linked fuel p0 p1 p2=some r):
  Meets Tryz.prog 93 #[Value.agg #[v0,v1],Value.int .i64 (p1),Value.int .i64 (p2)] [Sl RI64 v0 p0.1,S2 RI64I64p v1 z2 p0.2] (fun x:Unit=>Value.bool (r)) (fun x l=>l) (fun _ l=>l):=by
 refine Meets.of (vs:=[Value.agg #[v0,v1],Value.int .i64 (p1),Value.int .i64 (p2)]) Tryz.func93 rfl Tryz.ntmps93 rfl fun c=> ?_
 unfold m_world_linked at h
 refine J.seq<|J.region<|J.loud (Loud.box (cs:=[v0,v1]) rfl rfl) rfl fun b1=>J.quiet (Y.assign rfl) rfl<|J.done<|J.thenN<|J.seq<|J.midI (A:=Unit) (B:=Unit) (fun a2=>world_linked_k1  a2=some r) (fun a2 b3=>[]) (fun a2 b3=>[]) (fun a2 b3=>[Sl RI64 v0 p0.1,S2 RI64I64p v1 z2 p0.2]) ?_ ?_
 ·refine J.seq<|J.region<|J.quiet (Y.assign rfl) rfl<|J.done<|J.thenN<|J.block<|J.loopI (A:=Int) (B:=Unit) (world_linked_s1 p0 p1 p2) (fun a6 b7=>[(1,Value.int .i64 (p1)),(2,Value.int .i64 (p2)),(3,Value.pointer (some ⟨b1,0,none⟩)),(7,Value.int .i64 (a6))]) (fun a6 b7=>[Blk b1 [v0,v1] 25]) (fun a6 b7=>[Sl RI64 v0 p0.1,S2 RI64I64p v1 z2 p0.2]) (0:Int) (()) h SF (SubM.refl _) (LentAll.refl _ _) ?_
  clear h
  intro k8 a6 b7 h
  unfold world_linked_s1 at h
  refine J.seq<|J.seq<|J.region<|J.quiet (Y.move rfl) rfl<|J.quiet (Y.fieldB rfl rfl rfl rfl rfl) rfl<|J.quiet (Y.loadB 0 rfl rfl rfl rfl rfl) rfl<|J.quiet (Y.move rfl) rfl ?_
  have h:=ck_some h;obtain⟨hc9,h⟩:=h
  refine J.quiet (Y.indexN rfl rfl (Lent.fact 1 rfl) rfl rfl hc9) rfl<|J.quiet (Y.loadRow rfl (Lent.fact 1 rfl) rfl rfl hc9) rfl<|J.quiet (Y.lenS rfl (Lent.el (Lent.fact 1 rfl) hc9.1 hc9.2) rfl) rfl<|J.quiet (Y.lss rfl rfl) rfl<|J.done<|J.thenN ?_
  refine J.condD (by exact rfl) (fun hp10=> ?_) (fun hp10=> ?_)
  ·have h:=ifP hp10 h
   refine J.skip<|J.thenN<|J.seq<|J.block<|J.seq<|J.region<|J.quiet (Y.fieldB rfl rfl rfl rfl rfl) rfl<|J.quiet (Y.loadB 0 rfl rfl rfl rfl rfl) rfl<|J.quiet (Y.move rfl) rfl ?_
   have h:=ck_some h;obtain⟨hc11,h⟩:=h
   refine J.quiet (Y.indexN rfl rfl (Lent.fact 1 rfl) rfl rfl hc11) rfl<|J.quiet (Y.loadRow rfl (Lent.fact 1 rfl) rfl rfl hc11) rfl<|J.quiet (Y.move rfl) rfl ?_
   have h:=ck_some h;obtain⟨hc12,h⟩:=h
   refine J.quiet (Y.indexS rfl rfl (Lent.el (Lent.fact 1 rfl) hc11.1 hc11.2) rfl rfl hc12) rfl<|J.quiet (Y.fieldEl rfl rfl rfl rfl rfl) rfl<|J.quiet (Y.loadS rfl (Lent.el (Lent.fact 1 rfl) hc11.1 hc11.2) rfl rfl rfl RI64I64pc0 hc12) rfl<|J.quiet (Y.move rfl) rfl<|J.quiet (Y.eql rfl rfl) rfl<|J.done<|J.thenN ?_
   refine J.condD (by exact rfl) (fun hp13=> ?_) (fun hp13=> ?_)
   ·have h:=ifP hp13 h
    refine J.seq<|J.region<|J.quiet (Y.assign rfl) rfl<|J.done<|J.thenN<|J.ret<|J.inR<|J.thenR<|J.thenR<|J.inR<|J.thenR ?_
    obtain rfl:=Option.some.inj h
    exact J.retG1 (()) rfl rfl (RV.tmp rfl) (SubM.nil) LentAll.nil
   ·have h:=ifN hp13 h
    refine J.skip<|J.inN<|J.thenN<|J.region<|J.quiet (Y.move rfl) rfl<|J.quiet (Y.addW rfl rfl) rfl<|J.quiet (Y.assign rfl) rfl<|J.done<|J.thenN ?_
    exact J.againI (wI .i64 (a6+(1:Int))) (()) h SF (SubM.refl _) (LentAll.refl _ _)
  ·have h:=ifN hp10 h
   refine J.exit<|J.thenX<|J.thenX<|J.inX<|J.thenN ?_
   exact J.meetI (()) (()) h SF (SubM.nil) (LentAll.refl _ _)
 ·clear h
  intro a2 b3 h
  unfold world_linked_k1 at h
  refine J.seq<|J.region<|J.quiet (Y.assign rfl) rfl<|J.done<|J.thenN<|J.ret ?_
  obtain rfl:=Option.some.inj h
  exact J.retG1 (()) rfl rfl (RV.tmp rfl) (SubM.refl _) LentAll.nil
end Go.Proofs.YtfbkplemadmbfaaGreatDoor
end
section
namespace Go.Proofs.YtfbkplemadmbfaaGreatDoor
open Go.Sx
def _world_Net__link_k1 (p0:Int×List (Int)×List (Int)×List (Int)×Bool×Bool) (p1:List (Int)×(List (List (Int×Int)))) (p2:Int) (p3:Int) (p4:Int) (a4:Bool):Option ((List (List (Int×Int)))):=
 if a4=true then(some (p1.2))else(if p0.2.2.2.2.2=true then(ck (0<=p2∧p2<(List.length p1.2:Int)) (ck ((List.length ([(p3,p4)]):Int)+(List.length (at' p1.2 p2):Int)<=1099511627) (ck (0<=p2∧p2<(List.length p1.2:Int)) (ck (0<=p3∧p3<(List.length (List.set p1.2 (Int.toNat p2) (([(p3,p4)])++(at' p1.2 p2))):Int)) (ck ((List.length ([(p2,p4)]):Int)+(List.length (at' (List.set p1.2 (Int.toNat p2) (([(p3,p4)])++(at' p1.2 p2))) p3):Int)<=1099511627) (ck (0<=p3∧p3<(List.length (List.set p1.2 (Int.toNat p2) (([(p3,p4)])++(at' p1.2 p2))):Int)) (some (List.set (List.set p1.2 (Int.toNat p2) (([(p3,p4)])++(at' p1.2 p2))) (Int.toNat p3) (([(p2,p4)])++(at' (List.set p1.2 (Int.toNat p2) (([(p3,p4)])++(at' p1.2 p2))) p3))))))))))else(ck (0<=p2∧p2<(List.length p1.2:Int)) (ck (0<=p3∧p3<(List.length p1.2:Int)) (ck ((List.length (at' p1.2 p2):Int)+(List.length ([(p3,p4)]):Int)<=1099511627) (ck ((List.length (at' p1.2 p3):Int)+(List.length ([(p2,p4)]):Int)<=1099511627) (ck (Int.toNat p2≠Int.toNat p3) (ck (0<=p2∧p2<(List.length (List.set (List.set p1.2 (Int.toNat p2) ((at' p1.2 p2)++([(p3,p4)]))) (Int.toNat p3) ((at' p1.2 p3)++([(p2,p4)]))):Int)) (ck (0<=p3∧p3<(List.length (List.set (List.set p1.2 (Int.toNat p2) ((at' p1.2 p2)++([(p3,p4)]))) (Int.toNat p3) ((at' p1.2 p3)++([(p2,p4)]))):Int)) (some (List.set (List.set p1.2 (Int.toNat p2) ((at' p1.2 p2)++([(p3,p4)]))) (Int.toNat p3) ((at' p1.2 p3)++([(p2,p4)]))))))))))))
def m__world_Net__link (fuel:Nat) (p0:Int×List (Int)×List (Int)×List (Int)×Bool×Bool) (p1:List (Int)×(List (List (Int×Int)))) (p2:Int) (p3:Int) (p4:Int):Option ((List (List (Int×Int)))):=
 if p2=p3 then(_world_Net__link_k1 p0 p1 p2 p3 p4 (true))else(Option.bind (m_world_linked fuel ((p1.1,p1.2)) p2 p3) fun r86=>(_world_Net__link_k1 p0 p1 p2 p3 p4 (r86)))
theorem body63:HasBody Tryz.prog 63:=Tryz.call63
theorem t__world_Net__link (fuel:Nat) {p0:Int×List (Int)×List (Int)×List (Int)×Bool×Bool} {p1:List (Int)×(List (List (Int×Int)))} {p2:Int} {p3:Int} {p4:Int} (v0:Value)  (v1:Value)  (v2:Value)  (v3:Value)  (v4:Value)  (w5:List Value) (r:(List (List (Int×Int)))) (h:m__world_Net__link fuel p0 p1 p2 p3 p4=some r):
  MeetsM Tryz.prog 63 #[Value.agg #[Value.int .i64 (p0.1),v0,v1,v2,Value.bool (p0.2.2.2.2.1),Value.bool (p0.2.2.2.2.2)],Value.agg #[v3,v4],Value.int .i64 (p2),Value.int .i64 (p3),Value.int .i64 (p4)] [Ar Enc.raw v4 w5,Rws EI64I64p w5 p1.2] [Sl RI64 v0 p0.2.1,Sl RI64 v1 p0.2.2.1,Sl RI64 v2 p0.2.2.2.1,Sl RI64 v3 p1.1] (fun x:List Value=>Value.tuple #[]) (fun x l=>Ar Enc.raw v4 x::Rws EI64I64p x r::l):=by
 refine MeetsM.of (vs:=[Value.agg #[Value.int .i64 (p0.1),v0,v1,v2,Value.bool (p0.2.2.2.2.1),Value.bool (p0.2.2.2.2.2)],Value.agg #[v3,v4],Value.int .i64 (p2),Value.int .i64 (p3),Value.int .i64 (p4)]) Tryz.func63 rfl Tryz.ntmps63 rfl fun c=> ?_
 unfold m__world_Net__link at h
 refine J.seq<|J.region<|J.loud (Loud.box (cs:=[Value.int .i64 (p0.1),v0,v1,v2,Value.bool (p0.2.2.2.2.1),Value.bool (p0.2.2.2.2.2)]) rfl rfl) rfl fun b1=>J.loud (Loud.box (cs:=[v3,v4]) rfl rfl) rfl fun b2=>J.done<|J.thenN<|J.seq<|J.seq<|J.midI (A:=Bool) (B:=Unit) (fun a4=>_world_Net__link_k1 p0 p1 p2 p3 p4 a4=some r) (fun a4 b5=>[(2,Value.int .i64 (p2)),(3,Value.int .i64 (p3)),(4,Value.int .i64 (p4)),(5,Value.pointer (some ⟨b1,0,none⟩)),(6,Value.pointer (some ⟨b2,0,none⟩)),(20,Value.bool (a4))]) (fun a4 b5=>[Blk b2 [v3,v4] 25,Blk b1 [Value.int .i64 (p0.1),v0,v1,v2,Value.bool (p0.2.2.2.2.1),Value.bool (p0.2.2.2.2.2)] 38,Ar Enc.raw v4 w5,Rws EI64I64p w5 p1.2]) (fun a4 b5=>[Sl RI64 v0 p0.2.1,Sl RI64 v1 p0.2.2.1,Sl RI64 v2 p0.2.2.2.1,Sl RI64 v3 p1.1]) ?_ ?_
 ·refine J.region<|J.quiet (Y.move rfl) rfl<|J.quiet (Y.move rfl) rfl<|J.quiet (Y.eql rfl rfl) rfl<|J.quiet (Y.move rfl) rfl ?_
  refine J.guardD (by exact rfl) (by exact rfl) (fun hp85=> ?_) (fun hp85=> ?_)
  ·have h:=ifP hp85 h
   refine J.guardN rfl rfl rfl<|J.guardN rfl rfl rfl<|J.guardN rfl rfl rfl<|J.guardN rfl rfl rfl<|J.quiet (Y.pickT rfl rfl) rfl<|J.done<|J.thenN ?_
   exact J.meetI (true) (()) h SF (SubM.refl _) (LentAll.refl _ _)
  ·have h:=ifN hp85 h
   refine J.guardY rfl (Y.loadBAll 0 rfl rfl rfl rfl) rfl<|J.guardY rfl (Y.move rfl) rfl<|J.guardY rfl (Y.move rfl) rfl ?_
   have h:=bnd h;obtain⟨r86,hr87,h⟩:=h
   refine J.loudG rfl (Loud.callL body93 (t_world_linked fuel v3 v4 (List.zip w5 p1.2) r86 hr87) rfl (LentAll.cons (Lent.fact 3 rfl) (LentAll.cons (Lent.rows (i:=2) (j:=3) rfl rfl FI64I64p) .nil)) (fun _ _=>rfl)) rfl fun x88=>J.quiet (Y.pickF rfl rfl) rfl<|J.done<|J.thenN ?_
   exact J.meetI (r86) (()) h SF (SubM.refl _) (LentAll.refl _ _)
 ·clear h
  intro a4 b5 h
  unfold _world_Net__link_k1 at h
  refine J.cond (by exact rfl) (fun hp6=> ?_) (fun hp6=> ?_)
  ·have h:=ifP hp6 h
   refine J.ret<|J.thenR ?_
   obtain rfl:=Option.some.inj h
   exact J.retG0 (w5) rfl rfl .ret (.inl rfl) (SubM.cons 2 rfl (SubM.cons 2 rfl (SubM.nil))) LentAll.nil
  ·have h:=ifBN hp6 h
   refine J.skip<|J.thenN<|J.seq<|J.region<|J.quiet (Y.move rfl) rfl<|J.quiet (Y.move rfl) rfl ?_
   refine J.quiet (Y.bld2 (r:=Value.agg #[Value.int .i64 (p3),Value.int .i64 (p4)]) rfl rfl (by intro w;simp[Instr.build,Instr.fill,cells_intV,cells_boolV,cells_sliceV,cells_ptrV,cells_strV,cells_funcV,cells_agg])) rfl ?_
   refine J.quiet (Y.move rfl) rfl<|J.quiet (Y.move rfl) rfl ?_
   refine J.quiet (Y.bld2 (r:=Value.agg #[Value.int .i64 (p2),Value.int .i64 (p4)]) rfl rfl (by intro w;simp[Instr.build,Instr.fill,cells_intV,cells_boolV,cells_sliceV,cells_ptrV,cells_strV,cells_funcV,cells_agg])) rfl ?_
   refine J.loud (Loud.alloc (cs:=[Value.int .i64 (0:Int),Value.int .i64 (0:Int)]) rfl rfl) rfl fun b7=>J.loud (Loud.alloc (cs:=[Value.int .i64 (0:Int),Value.int .i64 (0:Int)]) rfl rfl) rfl fun b8=>J.storeAll 1 (vs:=[Value.int .i64 (p3),Value.int .i64 (p4)]) rfl rfl rfl rfl rfl rfl<|J.storeAll 0 (vs:=[Value.int .i64 (p2),Value.int .i64 (p4)]) rfl rfl rfl rfl rfl rfl<|J.done<|J.thenN<|J.seq<|J.seq<|J.region<|J.quiet (Y.fieldB rfl rfl rfl rfl rfl) rfl<|J.quiet (Y.loadB 3 rfl rfl rfl rfl rfl) rfl<|J.done<|J.thenN ?_
   refine J.cond (by exact rfl) (fun hp9=> ?_) (fun hp9=> ?_)
   ·have h:=ifP hp9 h
    refine J.seq ?_
    refine JR.start [0,1,0,0,8,0,32,0,224,480,1016,2047,4095] 11 mixedOrders (by decide +kernel) ?_
    refine JR.open (by exact rfl) ?_
    refine JR.qt rfl (SubM.nil) (SubL.nil) (Y.fieldB rfl rfl rfl rfl rfl) HistOk.z<|JR.qt rfl (SubM.cons 2 rfl (SubM.nil)) (SubL.nil) (Y.loadB 0 rfl rfl rfl rfl rfl) HistOk.z<|JR.qt rfl (SubM.nil) (SubL.nil) (Y.move rfl) HistOk.z<|JR.qt rfl (SubM.cons 1 rfl (SubM.nil)) (SubL.nil) (Y.loadBAll 0 rfl rfl rfl rfl) HistOk.z<|JR.loud rfl rfl rfl (Loud.buildS (e:=EI64I64p) ([((p3,p4))]) [(0,Value.agg #[Value.int .i64 (p3),Value.int .i64 (p4)])] rfl rfl rfl rfl (fill_1_2 (Value.int .i64 (p3)) (Value.int .i64 (p4))) rfl rfl rfl) rfl (fun u10=>(BsOk.b rfl (BsOk.h (SubM.nil) (SubL.nil) (BsOk.h (SubM.cons 3 rfl (SubM.nil)) (SubL.nil) (BsOk.h (SubM.nil) (SubL.nil) BsOk.z))))) fun u10=>JR.qt rfl (SubM.nil) (SubL.nil) (Y.fieldB rfl rfl rfl rfl rfl) (HistOk.h (SubM.nil) (SubL.nil) HistOk.z)<|JR.qt rfl (SubM.cons 3 rfl (SubM.nil)) (SubL.nil) (Y.loadB 0 rfl rfl rfl rfl rfl) (HistOk.h (SubM.cons 2 rfl (SubM.nil)) (SubL.nil) HistOk.z)<|JR.qt rfl (SubM.nil) (SubL.nil) (Y.move rfl) (HistOk.h (SubM.nil) (SubL.nil) HistOk.z) ?_
    have h:=ck_some h;obtain⟨hc11,h⟩:=h
    refine JR.know (Know.rws 6 rfl) fun hl12=> ?_
    refine JR.qt rfl (SubM.cons 5 rfl (SubM.nil)) (SubL.nil) (Y.indexA 0 rfl rfl rfl rfl rfl hc11.1 (by have q1:=hc11.2;have q2:=hl12;(try simp only[List.length_set]at q1);(try simp only[List.length_set]at q2);(try simp only[List.length_set]);omega)) (HistOk.h (SubM.cons 4 rfl (SubM.nil)) (SubL.nil) HistOk.z) ?_
    refine JR.know (Know.rws 6 rfl) fun hl13=>JR.qt rfl (SubM.cons 5 rfl (SubM.nil)) (SubL.nil) (Y.loadRaw 0 rfl rfl hl13 rfl rfl hc11) (HistOk.h (SubM.cons 4 rfl (SubM.nil)) (SubL.nil) HistOk.z) ?_
    have h:=ck_some h;obtain⟨hc15,h⟩:=h
    refine JR.loud rfl rfl rfl (Loud.appendL 0 FI64I64p rfl rfl rfl (Lent.row (j:=6) rfl FI64I64p hc11.1 hc11.2) rfl rfl rfl rfl hc15 rfl) rfl (fun u14=>(BsOk.b rfl (BsOk.b rfl (BsOk.b rfl (BsOk.b rfl (BsOk.b rfl (BsOk.b rfl (BsOk.h (SubM.nil) (SubL.nil) (BsOk.h (SubM.cons 3 rfl (SubM.nil)) (SubL.nil) (BsOk.h (SubM.nil) (SubL.nil) BsOk.z)))))))))) fun u14=>JR.tailD 11 rfl rfl ?_
    have h:=ck_some h;obtain⟨hc16,h⟩:=h
    refine J.quiet (Y.indexN rfl rfl (Lent.rows (i:=5) (j:=6) rfl rfl FI64I64p) rfl rfl hc16) rfl<|J.know (Know.one ((Lent.ar (Lent.res 0 rfl) FI64I64p))) fun ho17=>J.stp (Stp.putRow (k:=p2) 6 0 rfl rfl rfl hc16) ?_
    refine J.storeRow 4 5 ⟨hc16.1,by first|exact hc16.2|simpa using hc16.2⟩ rfl rfl rfl rfl rfl (by simp) ho17 rfl ?_
    refine J.done<|J.thenN<|J.seq ?_
    refine JR.start [0,1,0,0,8,0,32,0,224,480,1016,2047,4095] 11 mixedOrders (by decide +kernel) ?_
    refine JR.open (by exact rfl) ?_
    refine JR.qt rfl (SubM.nil) (SubL.nil) (Y.fieldB rfl rfl rfl rfl rfl) HistOk.z<|JR.qt rfl (SubM.cons 2 rfl (SubM.nil)) (SubL.nil) (Y.loadB 0 rfl rfl rfl rfl rfl) HistOk.z<|JR.qt rfl (SubM.nil) (SubL.nil) (Y.move rfl) HistOk.z<|JR.qt rfl (SubM.cons 0 rfl (SubM.nil)) (SubL.nil) (Y.loadBAll 0 rfl rfl rfl rfl) HistOk.z<|JR.loud rfl rfl rfl (Loud.buildS (e:=EI64I64p) ([((p2,p4))]) [(0,Value.agg #[Value.int .i64 (p2),Value.int .i64 (p4)])] rfl rfl rfl rfl (fill_1_2 (Value.int .i64 (p2)) (Value.int .i64 (p4))) rfl rfl rfl) rfl (fun u18=>(BsOk.b rfl (BsOk.h (SubM.nil) (SubL.nil) (BsOk.h (SubM.cons 3 rfl (SubM.nil)) (SubL.nil) (BsOk.h (SubM.nil) (SubL.nil) BsOk.z))))) fun u18=>JR.qt rfl (SubM.nil) (SubL.nil) (Y.fieldB rfl rfl rfl rfl rfl) (HistOk.h (SubM.nil) (SubL.nil) HistOk.z)<|JR.qt rfl (SubM.cons 3 rfl (SubM.nil)) (SubL.nil) (Y.loadB 0 rfl rfl rfl rfl rfl) (HistOk.h (SubM.cons 2 rfl (SubM.nil)) (SubL.nil) HistOk.z)<|JR.qt rfl (SubM.nil) (SubL.nil) (Y.move rfl) (HistOk.h (SubM.nil) (SubL.nil) HistOk.z) ?_
    have h:=ck_some h;obtain⟨hc19,h⟩:=h
    refine JR.know (Know.rws 6 rfl) fun hl20=> ?_
    refine JR.qt rfl (SubM.cons 5 rfl (SubM.nil)) (SubL.nil) (Y.indexA 0 rfl rfl rfl rfl rfl hc19.1 (by have q1:=hc19.2;have q2:=hl20;(try simp only[List.length_set]at q1);(try simp only[List.length_set]at q2);(try simp only[List.length_set]);omega)) (HistOk.h (SubM.cons 4 rfl (SubM.nil)) (SubL.nil) HistOk.z) ?_
    refine JR.know (Know.rws 6 rfl) fun hl21=>JR.qt rfl (SubM.cons 5 rfl (SubM.nil)) (SubL.nil) (Y.loadRaw 0 rfl rfl hl21 rfl rfl hc19) (HistOk.h (SubM.cons 4 rfl (SubM.nil)) (SubL.nil) HistOk.z) ?_
    have h:=ck_some h;obtain⟨hc23,h⟩:=h
    refine JR.loud rfl rfl rfl (Loud.appendL 0 FI64I64p rfl rfl rfl (Lent.row (j:=6) rfl FI64I64p hc19.1 hc19.2) rfl rfl rfl rfl hc23 rfl) rfl (fun u22=>(BsOk.b rfl (BsOk.b rfl (BsOk.b rfl (BsOk.b rfl (BsOk.b rfl (BsOk.b rfl (BsOk.h (SubM.nil) (SubL.nil) (BsOk.h (SubM.cons 3 rfl (SubM.nil)) (SubL.nil) (BsOk.h (SubM.nil) (SubL.nil) BsOk.z)))))))))) fun u22=>JR.tailD 11 rfl rfl ?_
    have h:=ck_some h;obtain⟨hc24,h⟩:=h
    refine J.quiet (Y.indexN rfl rfl (Lent.rows (i:=5) (j:=6) rfl rfl FI64I64p) rfl rfl hc24) rfl<|J.know (Know.one ((Lent.ar (Lent.res 0 rfl) FI64I64p))) fun ho25=>J.stp (Stp.putRow (k:=p3) 6 0 rfl rfl rfl hc24) ?_
    refine J.storeRow 4 5 ⟨hc24.1,by first|exact hc24.2|simpa using hc24.2⟩ rfl rfl rfl rfl rfl (by simp) ho25 rfl ?_
    refine J.done<|J.thenN<|J.ret<|J.thenR ?_
    obtain rfl:=Option.some.inj h
    exact J.retG0 (List.set (List.set w5 (Int.toNat p2) u14) (Int.toNat p3) u22) rfl rfl .ret (.inl rfl) (SubM.cons 4 rfl (SubM.cons 4 rfl (SubM.nil))) LentAll.nil
   ·have h:=ifBN hp9 h
    refine J.skip<|J.thenN ?_
    have h:=ck_some h;obtain⟨hc26,h⟩:=h
    have h:=ck_some h;obtain⟨hc29,h⟩:=h
    have h:=ck_some h;obtain⟨hc34,h⟩:=h
    have h:=ck_some h;obtain⟨hc37,h⟩:=h
    have h:=ck_some h;obtain⟨hc38,h⟩:=h
    have h:=ck_some h;obtain⟨hc39,h⟩:=h
    have h:=ck_some h;obtain⟨hc43,h⟩:=h
    refine JR.orders [0,1,0,0,8,0,0,64,0,448,960,0,2048,8128,0,16384,0,114688,245760,0,524288,2097088,4194247,8388551,16777215,33554431] 24 [[0,1,2,3,4,5,6,7,8,9,10,11,14,15,16,17,18,19,12,13,20,21,22,23,24,25],[0,1,2,3,4,5,6,7,8,9,10,11,14,15,16,17,18,19,12,20,13,21,22,23,24,25],[0,1,2,3,4,5,6,7,8,9,10,11,14,15,16,17,18,19,20,12,13,21,22,23,24,25]] mixedOrders (by decide +kernel) (by decide +kernel) ?_
    intro o ho
    simp only[List.mem_cons,List.not_mem_nil,or_false]at ho
    rcases ho with rfl|rfl|rfl
    ·refine JR.qt rfl (SubM.nil) (SubL.nil) (Y.fieldB rfl rfl rfl rfl rfl) HistOk.z<|JR.qt rfl (SubM.cons 2 rfl (SubM.nil)) (SubL.nil) (Y.loadB 0 rfl rfl rfl rfl rfl) HistOk.z<|JR.qt rfl (SubM.nil) (SubL.nil) (Y.move rfl) HistOk.z<|JR.qt rfl (SubM.nil) (SubL.nil) (Y.fieldB rfl rfl rfl rfl rfl) HistOk.z<|JR.qt rfl (SubM.cons 2 rfl (SubM.nil)) (SubL.nil) (Y.loadB 0 rfl rfl rfl rfl rfl) HistOk.z<|JR.qt rfl (SubM.nil) (SubL.nil) (Y.move rfl) HistOk.z<|JR.qt rfl (SubM.nil) (SubL.nil) (Y.fieldB rfl rfl rfl rfl rfl) HistOk.z<|JR.qt rfl (SubM.cons 2 rfl (SubM.nil)) (SubL.nil) (Y.loadB 0 rfl rfl rfl rfl rfl) HistOk.z<|JR.qt rfl (SubM.nil) (SubL.nil) (Y.move rfl) HistOk.z<|JR.know (Know.rws 5 rfl) fun hl46=> ?_
     refine JR.qt rfl (SubM.cons 4 rfl (SubM.nil)) (SubL.nil) (Y.indexA 0 rfl rfl rfl rfl rfl hc26.1 (by have q1:=hc26.2;have q2:=hl46;(try simp only[List.length_set]at q1);(try simp only[List.length_set]at q2);(try simp only[List.length_set]);omega)) HistOk.z ?_
     refine JR.know (Know.rws 5 rfl) fun hl47=>JR.qt rfl (SubM.cons 4 rfl (SubM.nil)) (SubL.nil) (Y.loadRaw 0 rfl rfl hl47 rfl rfl hc26) HistOk.z<|JR.qt rfl (SubM.cons 1 rfl (SubM.nil)) (SubL.nil) (Y.loadBAll 0 rfl rfl rfl rfl) HistOk.z<|JR.qt rfl (SubM.nil) (SubL.nil) (Y.fieldB rfl rfl rfl rfl rfl) HistOk.z<|JR.qt rfl (SubM.cons 2 rfl (SubM.nil)) (SubL.nil) (Y.loadB 0 rfl rfl rfl rfl rfl) HistOk.z<|JR.qt rfl (SubM.nil) (SubL.nil) (Y.move rfl) HistOk.z<|JR.know (Know.rws 5 rfl) fun hl48=> ?_
     refine JR.qt rfl (SubM.cons 4 rfl (SubM.nil)) (SubL.nil) (Y.indexA 0 rfl rfl rfl rfl rfl hc29.1 (by have q1:=hc29.2;have q2:=hl48;(try simp only[List.length_set]at q1);(try simp only[List.length_set]at q2);(try simp only[List.length_set]);omega)) HistOk.z ?_
     refine JR.know (Know.rws 5 rfl) fun hl49=>JR.qt rfl (SubM.cons 4 rfl (SubM.nil)) (SubL.nil) (Y.loadRaw 0 rfl rfl hl49 rfl rfl hc29) HistOk.z<|JR.qt rfl (SubM.cons 0 rfl (SubM.nil)) (SubL.nil) (Y.loadBAll 0 rfl rfl rfl rfl) HistOk.z<|JR.loud rfl rfl rfl (Loud.buildS (e:=EI64I64p) ([((p3,p4))]) [(0,Value.agg #[Value.int .i64 (p3),Value.int .i64 (p4)])] rfl rfl rfl rfl (fill_1_2 (Value.int .i64 (p3)) (Value.int .i64 (p4))) rfl rfl rfl) rfl (fun u50=>(BsOk.h (SubM.cons 1 rfl (SubM.nil)) (SubL.nil) (BsOk.h (SubM.cons 5 rfl (SubM.nil)) (SubL.nil) (BsOk.h (SubM.cons 5 rfl (SubM.nil)) (SubL.nil) (BsOk.h (SubM.nil) (SubL.nil) (BsOk.h (SubM.cons 3 rfl (SubM.nil)) (SubL.nil) (BsOk.h (SubM.nil) (SubL.nil) (BsOk.b rfl (BsOk.h (SubM.cons 5 rfl (SubM.nil)) (SubL.nil) (BsOk.h (SubM.cons 5 rfl (SubM.nil)) (SubL.nil) (BsOk.h (SubM.nil) (SubL.nil) (BsOk.h (SubM.cons 3 rfl (SubM.nil)) (SubL.nil) (BsOk.h (SubM.nil) (SubL.nil) (BsOk.h (SubM.nil) (SubL.nil) (BsOk.h (SubM.cons 3 rfl (SubM.nil)) (SubL.nil) (BsOk.h (SubM.nil) (SubL.nil) (BsOk.h (SubM.nil) (SubL.nil) (BsOk.h (SubM.cons 3 rfl (SubM.nil)) (SubL.nil) (BsOk.h (SubM.nil) (SubL.nil) BsOk.z))))))))))))))))))) fun u50=>JR.loud rfl rfl rfl (Loud.appendRowL 6 FI64I64p rfl rfl rfl (Lent.ar (Lent.res 0 rfl) FI64I64p) rfl rfl rfl rfl hc26 hc34 rfl) rfl (fun u51=>(BsOk.h (SubM.cons 1 rfl (SubM.nil)) (SubL.nil) (BsOk.h (SubM.cons 5 rfl (SubM.nil)) (SubL.nil) (BsOk.h (SubM.cons 5 rfl (SubM.nil)) (SubL.nil) (BsOk.h (SubM.nil) (SubL.nil) (BsOk.h (SubM.cons 3 rfl (SubM.nil)) (SubL.nil) (BsOk.h (SubM.nil) (SubL.nil) (BsOk.b rfl (BsOk.b rfl (BsOk.b rfl (BsOk.b rfl (BsOk.b rfl (BsOk.b rfl (BsOk.h (SubM.nil) (SubL.nil) (BsOk.h (SubM.cons 3 rfl (SubM.nil)) (SubL.nil) (BsOk.h (SubM.nil) (SubL.nil) (BsOk.h (SubM.nil) (SubL.nil) (BsOk.h (SubM.cons 3 rfl (SubM.nil)) (SubL.nil) (BsOk.h (SubM.nil) (SubL.nil) BsOk.z))))))))))))))))))) fun u51=>JR.loud rfl rfl rfl (Loud.buildS (e:=EI64I64p) ([((p2,p4))]) [(0,Value.agg #[Value.int .i64 (p2),Value.int .i64 (p4)])] rfl rfl rfl rfl (fill_1_2 (Value.int .i64 (p2)) (Value.int .i64 (p4))) rfl rfl rfl) rfl (fun u52=>(BsOk.b rfl (BsOk.h (SubM.cons 6 rfl (SubM.nil)) (SubL.nil) (BsOk.h (SubM.cons 6 rfl (SubM.nil)) (SubL.nil) (BsOk.h (SubM.nil) (SubL.nil) (BsOk.h (SubM.cons 4 rfl (SubM.nil)) (SubL.nil) (BsOk.h (SubM.nil) (SubL.nil) (BsOk.h (SubM.cons 3 rfl (SubM.nil)) (SubL.nil) (BsOk.h (SubM.cons 6 rfl (SubM.nil)) (SubL.nil) (BsOk.h (SubM.cons 6 rfl (SubM.nil)) (SubL.nil) (BsOk.h (SubM.nil) (SubL.nil) (BsOk.h (SubM.cons 4 rfl (SubM.nil)) (SubL.nil) (BsOk.h (SubM.nil) (SubL.nil) (BsOk.h (SubM.nil) (SubL.nil) (BsOk.h (SubM.cons 4 rfl (SubM.nil)) (SubL.nil) (BsOk.h (SubM.nil) (SubL.nil) (BsOk.h (SubM.nil) (SubL.nil) (BsOk.h (SubM.cons 4 rfl (SubM.nil)) (SubL.nil) (BsOk.h (SubM.nil) (SubL.nil) BsOk.z))))))))))))))))))) fun u52=>JR.loud rfl rfl rfl (Loud.appendRow2 (j:=p2) 7 FI64I64p rfl rfl rfl (Lent.ar (Lent.res 0 rfl) FI64I64p) rfl rfl rfl rfl hc29 hc37 rfl hc38) rfl (fun u53=>(BsOk.b rfl (BsOk.b rfl (BsOk.b rfl (BsOk.b rfl (BsOk.b rfl (BsOk.b rfl (BsOk.b rfl (BsOk.b rfl (BsOk.b rfl (BsOk.b rfl (BsOk.b rfl (BsOk.b rfl (BsOk.h (SubM.nil) (SubL.nil) (BsOk.h (SubM.cons 4 rfl (SubM.nil)) (SubL.nil) (BsOk.h (SubM.nil) (SubL.nil) (BsOk.h (SubM.nil) (SubL.nil) (BsOk.h (SubM.cons 4 rfl (SubM.nil)) (SubL.nil) (BsOk.h (SubM.nil) (SubL.nil) BsOk.z))))))))))))))))))) fun u53=>JR.know (Know.rws 7 rfl) fun hl54=> ?_
     refine JR.qt rfl (SubM.cons 6 rfl (SubM.nil)) (SubL.nil) (Y.indexA 0 rfl rfl rfl rfl rfl hc39.1 (by have q1:=hc39.2;have q2:=hl54;(try simp only[List.length_set]at q1);(try simp only[List.length_set]at q2);(try simp only[List.length_set]);omega)) (HistOk.b rfl (HistOk.b rfl (HistOk.b rfl (HistOk.b rfl HistOk.z)))) ?_
     refine JR.know (Know.oneRow2 (k:=p2) (j:=p3) 7 rfl (by omega) ⟨hc39.1,by first|exact hc39.2|simpa using hc39.2⟩) fun ho55=> ?_
     refine JR.loud0 rfl rfl rfl (Loud.storeRow 6 7 ⟨hc39.1,by first|exact hc39.2|simpa using hc39.2⟩ rfl rfl rfl rfl (by simp) ho55 rfl) (fun x56=>(BsOk.b rfl (BsOk.b rfl (BsOk.b rfl (BsOk.b rfl (BsOk.b rfl (BsOk.b rfl (BsOk.b rfl (BsOk.b rfl (BsOk.b rfl (BsOk.b rfl (BsOk.b rfl (BsOk.b rfl (BsOk.b rfl (BsOk.h (SubM.nil) (SubL.nil) (BsOk.h (SubM.cons 4 rfl (SubM.nil)) (SubL.nil) (BsOk.h (SubM.nil) (SubL.nil) (BsOk.b rfl (BsOk.b rfl (BsOk.b rfl BsOk.z)))))))))))))))))))) fun x56=> ?_
     refine JR.tailD 24 rfl rfl<|J.know (Know.rws 7 rfl) fun hl57=> ?_
     refine J.quiet (Y.indexA 6 rfl rfl rfl rfl rfl hc43.1 (by have q1:=hc43.2;have q2:=hl57;(try simp only[List.length_set]at q1);(try simp only[List.length_set]at q2);(try simp only[List.length_set]);omega)) rfl ?_
     refine J.know (Know.oneRow 7 (k:=p3) rfl ⟨hc43.1,by first|exact hc43.2|simpa using hc43.2⟩) fun ho58=> ?_
     refine J.storeRow 6 7 ⟨hc43.1,by first|exact hc43.2|simpa using hc43.2⟩ rfl rfl rfl rfl rfl (by simp) ho58 rfl ?_
     refine J.done ?_
     obtain rfl:=Option.some.inj h
     exact J.retG0 (List.set (List.set w5 (Int.toNat p2) u51) (Int.toNat p3) u53) rfl rfl .normal (.inr rfl) (SubM.cons 6 rfl (SubM.cons 6 rfl (SubM.nil))) LentAll.nil
    ·refine JR.qt rfl (SubM.nil) (SubL.nil) (Y.fieldB rfl rfl rfl rfl rfl) HistOk.z<|JR.qt rfl (SubM.cons 2 rfl (SubM.nil)) (SubL.nil) (Y.loadB 0 rfl rfl rfl rfl rfl) HistOk.z<|JR.qt rfl (SubM.nil) (SubL.nil) (Y.move rfl) HistOk.z<|JR.qt rfl (SubM.nil) (SubL.nil) (Y.fieldB rfl rfl rfl rfl rfl) HistOk.z<|JR.qt rfl (SubM.cons 2 rfl (SubM.nil)) (SubL.nil) (Y.loadB 0 rfl rfl rfl rfl rfl) HistOk.z<|JR.qt rfl (SubM.nil) (SubL.nil) (Y.move rfl) HistOk.z<|JR.qt rfl (SubM.nil) (SubL.nil) (Y.fieldB rfl rfl rfl rfl rfl) HistOk.z<|JR.qt rfl (SubM.cons 2 rfl (SubM.nil)) (SubL.nil) (Y.loadB 0 rfl rfl rfl rfl rfl) HistOk.z<|JR.qt rfl (SubM.nil) (SubL.nil) (Y.move rfl) HistOk.z<|JR.know (Know.rws 5 rfl) fun hl59=> ?_
     refine JR.qt rfl (SubM.cons 4 rfl (SubM.nil)) (SubL.nil) (Y.indexA 0 rfl rfl rfl rfl rfl hc26.1 (by have q1:=hc26.2;have q2:=hl59;(try simp only[List.length_set]at q1);(try simp only[List.length_set]at q2);(try simp only[List.length_set]);omega)) HistOk.z ?_
     refine JR.know (Know.rws 5 rfl) fun hl60=>JR.qt rfl (SubM.cons 4 rfl (SubM.nil)) (SubL.nil) (Y.loadRaw 0 rfl rfl hl60 rfl rfl hc26) HistOk.z<|JR.qt rfl (SubM.cons 1 rfl (SubM.nil)) (SubL.nil) (Y.loadBAll 0 rfl rfl rfl rfl) HistOk.z<|JR.qt rfl (SubM.nil) (SubL.nil) (Y.fieldB rfl rfl rfl rfl rfl) HistOk.z<|JR.qt rfl (SubM.cons 2 rfl (SubM.nil)) (SubL.nil) (Y.loadB 0 rfl rfl rfl rfl rfl) HistOk.z<|JR.qt rfl (SubM.nil) (SubL.nil) (Y.move rfl) HistOk.z<|JR.know (Know.rws 5 rfl) fun hl61=> ?_
     refine JR.qt rfl (SubM.cons 4 rfl (SubM.nil)) (SubL.nil) (Y.indexA 0 rfl rfl rfl rfl rfl hc29.1 (by have q1:=hc29.2;have q2:=hl61;(try simp only[List.length_set]at q1);(try simp only[List.length_set]at q2);(try simp only[List.length_set]);omega)) HistOk.z ?_
     refine JR.know (Know.rws 5 rfl) fun hl62=>JR.qt rfl (SubM.cons 4 rfl (SubM.nil)) (SubL.nil) (Y.loadRaw 0 rfl rfl hl62 rfl rfl hc29) HistOk.z<|JR.qt rfl (SubM.cons 0 rfl (SubM.nil)) (SubL.nil) (Y.loadBAll 0 rfl rfl rfl rfl) HistOk.z<|JR.loud rfl rfl rfl (Loud.buildS (e:=EI64I64p) ([((p3,p4))]) [(0,Value.agg #[Value.int .i64 (p3),Value.int .i64 (p4)])] rfl rfl rfl rfl (fill_1_2 (Value.int .i64 (p3)) (Value.int .i64 (p4))) rfl rfl rfl) rfl (fun u63=>(BsOk.h (SubM.cons 1 rfl (SubM.nil)) (SubL.nil) (BsOk.h (SubM.cons 5 rfl (SubM.nil)) (SubL.nil) (BsOk.h (SubM.cons 5 rfl (SubM.nil)) (SubL.nil) (BsOk.h (SubM.nil) (SubL.nil) (BsOk.h (SubM.cons 3 rfl (SubM.nil)) (SubL.nil) (BsOk.h (SubM.nil) (SubL.nil) (BsOk.b rfl (BsOk.h (SubM.cons 5 rfl (SubM.nil)) (SubL.nil) (BsOk.h (SubM.cons 5 rfl (SubM.nil)) (SubL.nil) (BsOk.h (SubM.nil) (SubL.nil) (BsOk.h (SubM.cons 3 rfl (SubM.nil)) (SubL.nil) (BsOk.h (SubM.nil) (SubL.nil) (BsOk.h (SubM.nil) (SubL.nil) (BsOk.h (SubM.cons 3 rfl (SubM.nil)) (SubL.nil) (BsOk.h (SubM.nil) (SubL.nil) (BsOk.h (SubM.nil) (SubL.nil) (BsOk.h (SubM.cons 3 rfl (SubM.nil)) (SubL.nil) (BsOk.h (SubM.nil) (SubL.nil) BsOk.z))))))))))))))))))) fun u63=>JR.loud rfl rfl rfl (Loud.buildS (e:=EI64I64p) ([((p2,p4))]) [(0,Value.agg #[Value.int .i64 (p2),Value.int .i64 (p4)])] rfl rfl rfl rfl (fill_1_2 (Value.int .i64 (p2)) (Value.int .i64 (p4))) rfl rfl rfl) rfl (fun u64=>(BsOk.b rfl (BsOk.h (SubM.cons 6 rfl (SubM.nil)) (SubL.nil) (BsOk.h (SubM.cons 6 rfl (SubM.nil)) (SubL.nil) (BsOk.h (SubM.nil) (SubL.nil) (BsOk.h (SubM.cons 4 rfl (SubM.nil)) (SubL.nil) (BsOk.h (SubM.nil) (SubL.nil) (BsOk.h (SubM.cons 3 rfl (SubM.nil)) (SubL.nil) (BsOk.h (SubM.cons 6 rfl (SubM.nil)) (SubL.nil) (BsOk.h (SubM.cons 6 rfl (SubM.nil)) (SubL.nil) (BsOk.h (SubM.nil) (SubL.nil) (BsOk.h (SubM.cons 4 rfl (SubM.nil)) (SubL.nil) (BsOk.h (SubM.nil) (SubL.nil) (BsOk.h (SubM.nil) (SubL.nil) (BsOk.h (SubM.cons 4 rfl (SubM.nil)) (SubL.nil) (BsOk.h (SubM.nil) (SubL.nil) (BsOk.h (SubM.nil) (SubL.nil) (BsOk.h (SubM.cons 4 rfl (SubM.nil)) (SubL.nil) (BsOk.h (SubM.nil) (SubL.nil) BsOk.z))))))))))))))))))) fun u64=>JR.loud rfl rfl rfl (Loud.appendRowL 7 FI64I64p rfl rfl rfl (Lent.ar (Lent.res 1 rfl) FI64I64p) rfl rfl rfl rfl hc26 hc34 rfl) rfl (fun u65=>(BsOk.h (SubM.cons 2 rfl (SubM.nil)) (SubL.nil) (BsOk.h (SubM.cons 6 rfl (SubM.nil)) (SubL.nil) (BsOk.h (SubM.cons 6 rfl (SubM.nil)) (SubL.nil) (BsOk.h (SubM.nil) (SubL.nil) (BsOk.h (SubM.cons 4 rfl (SubM.nil)) (SubL.nil) (BsOk.h (SubM.nil) (SubL.nil) (BsOk.b rfl (BsOk.b rfl (BsOk.b rfl (BsOk.b rfl (BsOk.b rfl (BsOk.b rfl (BsOk.h (SubM.nil) (SubL.nil) (BsOk.h (SubM.cons 4 rfl (SubM.nil)) (SubL.nil) (BsOk.h (SubM.nil) (SubL.nil) (BsOk.h (SubM.nil) (SubL.nil) (BsOk.h (SubM.cons 4 rfl (SubM.nil)) (SubL.nil) (BsOk.h (SubM.nil) (SubL.nil) BsOk.z))))))))))))))))))) fun u65=>JR.loud rfl rfl rfl (Loud.appendRow2 (j:=p2) 7 FI64I64p rfl rfl rfl (Lent.ar (Lent.res 0 rfl) FI64I64p) rfl rfl rfl rfl hc29 hc37 rfl hc38) rfl (fun u66=>(BsOk.b rfl (BsOk.b rfl (BsOk.b rfl (BsOk.b rfl (BsOk.b rfl (BsOk.b rfl (BsOk.b rfl (BsOk.b rfl (BsOk.b rfl (BsOk.b rfl (BsOk.b rfl (BsOk.b rfl (BsOk.h (SubM.nil) (SubL.nil) (BsOk.h (SubM.cons 4 rfl (SubM.nil)) (SubL.nil) (BsOk.h (SubM.nil) (SubL.nil) (BsOk.h (SubM.nil) (SubL.nil) (BsOk.h (SubM.cons 4 rfl (SubM.nil)) (SubL.nil) (BsOk.h (SubM.nil) (SubL.nil) BsOk.z))))))))))))))))))) fun u66=>JR.know (Know.rws 7 rfl) fun hl67=> ?_
     refine JR.qt rfl (SubM.cons 6 rfl (SubM.nil)) (SubL.nil) (Y.indexA 0 rfl rfl rfl rfl rfl hc39.1 (by have q1:=hc39.2;have q2:=hl67;(try simp only[List.length_set]at q1);(try simp only[List.length_set]at q2);(try simp only[List.length_set]);omega)) (HistOk.b rfl (HistOk.b rfl (HistOk.b rfl (HistOk.b rfl HistOk.z)))) ?_
     refine JR.know (Know.oneRow2 (k:=p2) (j:=p3) 7 rfl (by omega) ⟨hc39.1,by first|exact hc39.2|simpa using hc39.2⟩) fun ho68=> ?_
     refine JR.loud0 rfl rfl rfl (Loud.storeRow 6 7 ⟨hc39.1,by first|exact hc39.2|simpa using hc39.2⟩ rfl rfl rfl rfl (by simp) ho68 rfl) (fun x69=>(BsOk.b rfl (BsOk.b rfl (BsOk.b rfl (BsOk.b rfl (BsOk.b rfl (BsOk.b rfl (BsOk.b rfl (BsOk.b rfl (BsOk.b rfl (BsOk.b rfl (BsOk.b rfl (BsOk.b rfl (BsOk.b rfl (BsOk.h (SubM.nil) (SubL.nil) (BsOk.h (SubM.cons 4 rfl (SubM.nil)) (SubL.nil) (BsOk.h (SubM.nil) (SubL.nil) (BsOk.b rfl (BsOk.b rfl (BsOk.b rfl BsOk.z)))))))))))))))))))) fun x69=> ?_
     refine JR.tailD 24 rfl rfl<|J.know (Know.rws 7 rfl) fun hl70=> ?_
     refine J.quiet (Y.indexA 6 rfl rfl rfl rfl rfl hc43.1 (by have q1:=hc43.2;have q2:=hl70;(try simp only[List.length_set]at q1);(try simp only[List.length_set]at q2);(try simp only[List.length_set]);omega)) rfl ?_
     refine J.know (Know.oneRow 7 (k:=p3) rfl ⟨hc43.1,by first|exact hc43.2|simpa using hc43.2⟩) fun ho71=> ?_
     refine J.storeRow 6 7 ⟨hc43.1,by first|exact hc43.2|simpa using hc43.2⟩ rfl rfl rfl rfl rfl (by simp) ho71 rfl ?_
     refine J.done ?_
     obtain rfl:=Option.some.inj h
     exact J.retG0 (List.set (List.set w5 (Int.toNat p2) u65) (Int.toNat p3) u66) rfl rfl .normal (.inr rfl) (SubM.cons 6 rfl (SubM.cons 6 rfl (SubM.nil))) LentAll.nil
    ·refine JR.qt rfl (SubM.nil) (SubL.nil) (Y.fieldB rfl rfl rfl rfl rfl) HistOk.z<|JR.qt rfl (SubM.cons 2 rfl (SubM.nil)) (SubL.nil) (Y.loadB 0 rfl rfl rfl rfl rfl) HistOk.z<|JR.qt rfl (SubM.nil) (SubL.nil) (Y.move rfl) HistOk.z<|JR.qt rfl (SubM.nil) (SubL.nil) (Y.fieldB rfl rfl rfl rfl rfl) HistOk.z<|JR.qt rfl (SubM.cons 2 rfl (SubM.nil)) (SubL.nil) (Y.loadB 0 rfl rfl rfl rfl rfl) HistOk.z<|JR.qt rfl (SubM.nil) (SubL.nil) (Y.move rfl) HistOk.z<|JR.qt rfl (SubM.nil) (SubL.nil) (Y.fieldB rfl rfl rfl rfl rfl) HistOk.z<|JR.qt rfl (SubM.cons 2 rfl (SubM.nil)) (SubL.nil) (Y.loadB 0 rfl rfl rfl rfl rfl) HistOk.z<|JR.qt rfl (SubM.nil) (SubL.nil) (Y.move rfl) HistOk.z<|JR.know (Know.rws 5 rfl) fun hl72=> ?_
     refine JR.qt rfl (SubM.cons 4 rfl (SubM.nil)) (SubL.nil) (Y.indexA 0 rfl rfl rfl rfl rfl hc26.1 (by have q1:=hc26.2;have q2:=hl72;(try simp only[List.length_set]at q1);(try simp only[List.length_set]at q2);(try simp only[List.length_set]);omega)) HistOk.z ?_
     refine JR.know (Know.rws 5 rfl) fun hl73=>JR.qt rfl (SubM.cons 4 rfl (SubM.nil)) (SubL.nil) (Y.loadRaw 0 rfl rfl hl73 rfl rfl hc26) HistOk.z<|JR.qt rfl (SubM.cons 1 rfl (SubM.nil)) (SubL.nil) (Y.loadBAll 0 rfl rfl rfl rfl) HistOk.z<|JR.qt rfl (SubM.nil) (SubL.nil) (Y.fieldB rfl rfl rfl rfl rfl) HistOk.z<|JR.qt rfl (SubM.cons 2 rfl (SubM.nil)) (SubL.nil) (Y.loadB 0 rfl rfl rfl rfl rfl) HistOk.z<|JR.qt rfl (SubM.nil) (SubL.nil) (Y.move rfl) HistOk.z<|JR.know (Know.rws 5 rfl) fun hl74=> ?_
     refine JR.qt rfl (SubM.cons 4 rfl (SubM.nil)) (SubL.nil) (Y.indexA 0 rfl rfl rfl rfl rfl hc29.1 (by have q1:=hc29.2;have q2:=hl74;(try simp only[List.length_set]at q1);(try simp only[List.length_set]at q2);(try simp only[List.length_set]);omega)) HistOk.z ?_
     refine JR.know (Know.rws 5 rfl) fun hl75=>JR.qt rfl (SubM.cons 4 rfl (SubM.nil)) (SubL.nil) (Y.loadRaw 0 rfl rfl hl75 rfl rfl hc29) HistOk.z<|JR.qt rfl (SubM.cons 0 rfl (SubM.nil)) (SubL.nil) (Y.loadBAll 0 rfl rfl rfl rfl) HistOk.z<|JR.loud rfl rfl rfl (Loud.buildS (e:=EI64I64p) ([((p2,p4))]) [(0,Value.agg #[Value.int .i64 (p2),Value.int .i64 (p4)])] rfl rfl rfl rfl (fill_1_2 (Value.int .i64 (p2)) (Value.int .i64 (p4))) rfl rfl rfl) rfl (fun u76=>(BsOk.b rfl (BsOk.h (SubM.cons 5 rfl (SubM.nil)) (SubL.nil) (BsOk.h (SubM.cons 5 rfl (SubM.nil)) (SubL.nil) (BsOk.h (SubM.nil) (SubL.nil) (BsOk.h (SubM.cons 3 rfl (SubM.nil)) (SubL.nil) (BsOk.h (SubM.nil) (SubL.nil) (BsOk.h (SubM.cons 2 rfl (SubM.nil)) (SubL.nil) (BsOk.h (SubM.cons 5 rfl (SubM.nil)) (SubL.nil) (BsOk.h (SubM.cons 5 rfl (SubM.nil)) (SubL.nil) (BsOk.h (SubM.nil) (SubL.nil) (BsOk.h (SubM.cons 3 rfl (SubM.nil)) (SubL.nil) (BsOk.h (SubM.nil) (SubL.nil) (BsOk.h (SubM.nil) (SubL.nil) (BsOk.h (SubM.cons 3 rfl (SubM.nil)) (SubL.nil) (BsOk.h (SubM.nil) (SubL.nil) (BsOk.h (SubM.nil) (SubL.nil) (BsOk.h (SubM.cons 3 rfl (SubM.nil)) (SubL.nil) (BsOk.h (SubM.nil) (SubL.nil) BsOk.z))))))))))))))))))) fun u76=>JR.loud rfl rfl rfl (Loud.buildS (e:=EI64I64p) ([((p3,p4))]) [(0,Value.agg #[Value.int .i64 (p3),Value.int .i64 (p4)])] rfl rfl rfl rfl (fill_1_2 (Value.int .i64 (p3)) (Value.int .i64 (p4))) rfl rfl rfl) rfl (fun u77=>(BsOk.h (SubM.cons 2 rfl (SubM.nil)) (SubL.nil) (BsOk.h (SubM.cons 6 rfl (SubM.nil)) (SubL.nil) (BsOk.h (SubM.cons 6 rfl (SubM.nil)) (SubL.nil) (BsOk.h (SubM.nil) (SubL.nil) (BsOk.h (SubM.cons 4 rfl (SubM.nil)) (SubL.nil) (BsOk.h (SubM.nil) (SubL.nil) (BsOk.b rfl (BsOk.h (SubM.cons 6 rfl (SubM.nil)) (SubL.nil) (BsOk.h (SubM.cons 6 rfl (SubM.nil)) (SubL.nil) (BsOk.h (SubM.nil) (SubL.nil) (BsOk.h (SubM.cons 4 rfl (SubM.nil)) (SubL.nil) (BsOk.h (SubM.nil) (SubL.nil) (BsOk.h (SubM.nil) (SubL.nil) (BsOk.h (SubM.cons 4 rfl (SubM.nil)) (SubL.nil) (BsOk.h (SubM.nil) (SubL.nil) (BsOk.h (SubM.nil) (SubL.nil) (BsOk.h (SubM.cons 4 rfl (SubM.nil)) (SubL.nil) (BsOk.h (SubM.nil) (SubL.nil) BsOk.z))))))))))))))))))) fun u77=>JR.loud rfl rfl rfl (Loud.appendRowL 7 FI64I64p rfl rfl rfl (Lent.ar (Lent.res 0 rfl) FI64I64p) rfl rfl rfl rfl hc26 hc34 rfl) rfl (fun u78=>(BsOk.h (SubM.cons 2 rfl (SubM.nil)) (SubL.nil) (BsOk.h (SubM.cons 6 rfl (SubM.nil)) (SubL.nil) (BsOk.h (SubM.cons 6 rfl (SubM.nil)) (SubL.nil) (BsOk.h (SubM.nil) (SubL.nil) (BsOk.h (SubM.cons 4 rfl (SubM.nil)) (SubL.nil) (BsOk.h (SubM.nil) (SubL.nil) (BsOk.b rfl (BsOk.b rfl (BsOk.b rfl (BsOk.b rfl (BsOk.b rfl (BsOk.b rfl (BsOk.h (SubM.nil) (SubL.nil) (BsOk.h (SubM.cons 4 rfl (SubM.nil)) (SubL.nil) (BsOk.h (SubM.nil) (SubL.nil) (BsOk.h (SubM.nil) (SubL.nil) (BsOk.h (SubM.cons 4 rfl (SubM.nil)) (SubL.nil) (BsOk.h (SubM.nil) (SubL.nil) BsOk.z))))))))))))))))))) fun u78=>JR.loud rfl rfl rfl (Loud.appendRow2 (j:=p2) 7 FI64I64p rfl rfl rfl (Lent.ar (Lent.res 1 rfl) FI64I64p) rfl rfl rfl rfl hc29 hc37 rfl hc38) rfl (fun u79=>(BsOk.b rfl (BsOk.b rfl (BsOk.b rfl (BsOk.b rfl (BsOk.b rfl (BsOk.b rfl (BsOk.b rfl (BsOk.b rfl (BsOk.b rfl (BsOk.b rfl (BsOk.b rfl (BsOk.b rfl (BsOk.h (SubM.nil) (SubL.nil) (BsOk.h (SubM.cons 4 rfl (SubM.nil)) (SubL.nil) (BsOk.h (SubM.nil) (SubL.nil) (BsOk.h (SubM.nil) (SubL.nil) (BsOk.h (SubM.cons 4 rfl (SubM.nil)) (SubL.nil) (BsOk.h (SubM.nil) (SubL.nil) BsOk.z))))))))))))))))))) fun u79=>JR.know (Know.rws 7 rfl) fun hl80=> ?_
     refine JR.qt rfl (SubM.cons 6 rfl (SubM.nil)) (SubL.nil) (Y.indexA 0 rfl rfl rfl rfl rfl hc39.1 (by have q1:=hc39.2;have q2:=hl80;(try simp only[List.length_set]at q1);(try simp only[List.length_set]at q2);(try simp only[List.length_set]);omega)) (HistOk.b rfl (HistOk.b rfl (HistOk.b rfl (HistOk.b rfl HistOk.z)))) ?_
     refine JR.know (Know.oneRow2 (k:=p2) (j:=p3) 7 rfl (by omega) ⟨hc39.1,by first|exact hc39.2|simpa using hc39.2⟩) fun ho81=> ?_
     refine JR.loud0 rfl rfl rfl (Loud.storeRow 6 7 ⟨hc39.1,by first|exact hc39.2|simpa using hc39.2⟩ rfl rfl rfl rfl (by simp) ho81 rfl) (fun x82=>(BsOk.b rfl (BsOk.b rfl (BsOk.b rfl (BsOk.b rfl (BsOk.b rfl (BsOk.b rfl (BsOk.b rfl (BsOk.b rfl (BsOk.b rfl (BsOk.b rfl (BsOk.b rfl (BsOk.b rfl (BsOk.b rfl (BsOk.h (SubM.nil) (SubL.nil) (BsOk.h (SubM.cons 4 rfl (SubM.nil)) (SubL.nil) (BsOk.h (SubM.nil) (SubL.nil) (BsOk.b rfl (BsOk.b rfl (BsOk.b rfl BsOk.z)))))))))))))))))))) fun x82=> ?_
     refine JR.tailD 24 rfl rfl<|J.know (Know.rws 7 rfl) fun hl83=> ?_
     refine J.quiet (Y.indexA 6 rfl rfl rfl rfl rfl hc43.1 (by have q1:=hc43.2;have q2:=hl83;(try simp only[List.length_set]at q1);(try simp only[List.length_set]at q2);(try simp only[List.length_set]);omega)) rfl ?_
     refine J.know (Know.oneRow 7 (k:=p3) rfl ⟨hc43.1,by first|exact hc43.2|simpa using hc43.2⟩) fun ho84=> ?_
     refine J.storeRow 6 7 ⟨hc43.1,by first|exact hc43.2|simpa using hc43.2⟩ rfl rfl rfl rfl rfl (by simp) ho84 rfl ?_
     refine J.done ?_
     obtain rfl:=Option.some.inj h
     exact J.retG0 (List.set (List.set w5 (Int.toNat p2) u78) (Int.toNat p3) u79) rfl rfl .normal (.inr rfl) (SubM.cons 6 rfl (SubM.cons 6 rfl (SubM.nil))) LentAll.nil
end Go.Proofs.YtfbkplemadmbfaaGreatDoor
end
section
namespace Go.Proofs.YtfbkplemadmbfaaGreatDoor
open Go.Sx
def _world_Net__Tree_k1 (r3:(List (Int)×(List (List (Int×Int))))) (a11:(List (List (Int×Int)))):Option ((List (Int)×(List (List (Int×Int))))):=
 some ((r3.1,a11))
def _world_Net__Tree_s1 (fuel:Nat) (p0:Int×List (Int)×List (Int)×List (Int)×Bool×Bool) (r3:(List (Int)×(List (List (Int×Int))))) (a19:Int×(List (List (Int×Int)))) (ag18:(Int×(List (List (Int×Int))))->Option ((List (Int)×(List (List (Int×Int)))))):Option ((List (Int)×(List (List (Int×Int))))):=
 if a19.1<(List.length a19.2:Int)then(Option.bind (m_world_at fuel p0.2.1 (wI .i64 (a19.1 - (1:Int)))) fun r23=>(Option.bind (m_world_Within fuel r23 a19.1) fun r26=>(Option.bind (m_world_at fuel p0.2.2.1 (wI .i64 (a19.1 - (1:Int)))) fun r29=>(Option.bind (m_world_Within fuel r29 (15:Int)) fun r32=>(Option.bind (m__world_Net__link fuel ((p0.1,p0.2.1,p0.2.2.1,p0.2.2.2.1,p0.2.2.2.2.1,p0.2.2.2.2.2)) ((r3.1,a19.2)) r26 a19.1 (wI .i64 ((1:Int)+r32))) fun r35=>(ag18 ((wI .i64 (a19.1+(1:Int))),r35)))))))else(_world_Net__Tree_k1 r3 (a19.2))
def m__world_Net__Tree (fuel:Nat) (p0:Int×List (Int)×List (Int)×List (Int)×Bool×Bool) (p1:Int):Option ((List (Int)×(List (List (Int×Int))))):=
 Option.bind (m__world_Net__nodes fuel ((p0.1,p0.2.1,p0.2.2.1,p0.2.2.2.1,p0.2.2.2.2.1,p0.2.2.2.2.2)) p1) fun r3=>(iter (_world_Net__Tree_s1 fuel p0 r3) fuel ((1:Int),r3.2))
theorem body28:HasBody Tryz.prog 28:=Tryz.call28
theorem t__world_Net__Tree (fuel:Nat) {p0:Int×List (Int)×List (Int)×List (Int)×Bool×Bool} {p1:Int} (v0:Value)  (v1:Value)  (v2:Value) (r:(List (Int)×(List (List (Int×Int))))) (h:m__world_Net__Tree fuel p0 p1=some r):
  Meets Tryz.prog 28 #[Value.agg #[Value.int .i64 (p0.1),v0,v1,v2,Value.bool (p0.2.2.2.2.1),Value.bool (p0.2.2.2.2.2)],Value.int .i64 (p1)] [Sl RI64 v0 p0.2.1,Sl RI64 v1 p0.2.2.1,Sl RI64 v2 p0.2.2.2.1] (fun x:Value×Value×List Value=>Value.agg #[x.1,x.2.1]) (fun x l=>Ar EI64 x.1 r.1::Ar Enc.raw x.2.1 x.2.2::Rws EI64I64p x.2.2 r.2::l) (fun _ l=>l):=by
 refine Meets.of (vs:=[Value.agg #[Value.int .i64 (p0.1),v0,v1,v2,Value.bool (p0.2.2.2.2.1),Value.bool (p0.2.2.2.2.2)],Value.int .i64 (p1)]) Tryz.func28 rfl Tryz.ntmps28 rfl fun c=> ?_
 unfold m__world_Net__Tree at h
 refine J.seq<|J.region<|J.loud (Loud.box (cs:=[Value.int .i64 (p0.1),v0,v1,v2,Value.bool (p0.2.2.2.2.1),Value.bool (p0.2.2.2.2.2)]) rfl rfl) rfl fun b1=>J.loud (Loud.alloc (cs:=[Value.slice none 0 0,Value.slice none 0 0]) rfl rfl) rfl fun b2=>J.done<|J.thenN<|J.seq<|J.region<|J.quiet (Y.loadBAll 1 rfl rfl rfl rfl) rfl<|J.quiet (Y.move rfl) rfl ?_
 have h:=bnd h;obtain⟨r3,hr4,h⟩:=h
 refine J.loud (Loud.callL body62 (t__world_Net__nodes fuel v0 v1 v2 r3 hr4) rfl (LentAll.cons (Lent.fact 0 rfl) (LentAll.cons (Lent.fact 1 rfl) (LentAll.cons (Lent.fact 2 rfl) .nil))) (fun _ _=>rfl)) rfl fun x5=>J.loud (Loud.alloc (cs:=[Value.slice none 0 0,Value.slice none 0 0]) rfl rfl) rfl fun b6=>J.know (Know.one ((Lent.ar (Lent.res 1 rfl) FI64))) fun ho7=>J.know (Know.one (Lent.sl (Lent.rows (i:=2) (j:=3) rfl rfl FI64I64p))) fun ho8=>J.storeAll 0 (vs:=[x5.1,x5.2.1]) rfl rfl (all1 ho7 (all1 ho8 rfl)) rfl rfl rfl<|J.done<|J.thenN<|J.seq<|J.midI (A:=(List (List (Int×Int)))) (B:=List Value) (fun a11=>_world_Net__Tree_k1 r3 a11=some r) (fun a11 b12=>[(4,Value.pointer (some ⟨b2,0,none⟩)),(5,Value.pointer (some ⟨b6,0,none⟩))]) (fun a11 b12=>[Blk b6 [x5.1,x5.2.1] 25,Ar EI64 x5.1 r3.1,Ar Enc.raw x5.2.1 b12,Rws EI64I64p b12 a11,Blk b2 [Value.slice none 0 0,Value.slice none 0 0] 25]) (fun a11 b12=>[Sl RI64 v0 p0.2.1,Sl RI64 v1 p0.2.2.1,Sl RI64 v2 p0.2.2.2.1]) ?_ ?_
 ·refine J.seq<|J.region<|J.quiet (Y.assign rfl) rfl<|J.done<|J.thenN<|J.block<|J.loopI (A:=Int×(List (List (Int×Int)))) (B:=List Value) (_world_Net__Tree_s1 fuel p0 r3) (fun a19 b20=>[(2,Value.pointer (some ⟨b1,0,none⟩)),(4,Value.pointer (some ⟨b2,0,none⟩)),(5,Value.pointer (some ⟨b6,0,none⟩)),(6,Value.int .i64 (a19.1))]) (fun a19 b20=>[Blk b6 [x5.1,x5.2.1] 25,Ar EI64 x5.1 r3.1,Ar Enc.raw x5.2.1 b20,Rws EI64I64p b20 a19.2,Blk b2 [Value.slice none 0 0,Value.slice none 0 0] 25,Blk b1 [Value.int .i64 (p0.1),v0,v1,v2,Value.bool (p0.2.2.2.2.1),Value.bool (p0.2.2.2.2.2)] 38]) (fun a19 b20=>[Sl RI64 v0 p0.2.1,Sl RI64 v1 p0.2.2.1,Sl RI64 v2 p0.2.2.2.1]) ((1:Int),r3.2) (x5.2.2) h SF (SubM.refl _) (LentAll.refl _ _) ?_
  clear h
  intro k21 a19 b20 h
  unfold _world_Net__Tree_s1 at h
  refine J.seq<|J.seq<|J.region<|J.quiet (Y.move rfl) rfl<|J.quiet (Y.fieldB rfl rfl rfl rfl rfl) rfl<|J.quiet (Y.loadB 0 rfl rfl rfl rfl rfl) rfl<|J.quiet (Y.lenN rfl (Lent.rows (i:=2) (j:=3) rfl rfl FI64I64p) rfl) rfl<|J.quiet (Y.lss rfl rfl) rfl<|J.done<|J.thenN ?_
  refine J.condD (by exact rfl) (fun hp22=> ?_) (fun hp22=> ?_)
  ·have h:=ifP hp22 h
   refine J.skip<|J.thenN<|J.seq<|J.block ?_
   refine JR.start [0,0,0,4,0,16,60,0,252,0,0,1024,0,4096,15868,32252,65020,131071] 17 mixedOrders (by decide +kernel) ?_
   refine JR.open (by exact rfl) ?_
   refine JR.qt rfl (SubM.cons 5 rfl (SubM.nil)) (SubL.nil) (Y.loadBAll 0 rfl rfl rfl rfl) HistOk.z<|JR.qt rfl (SubM.cons 0 rfl (SubM.nil)) (SubL.nil) (Y.loadBAll 0 rfl rfl rfl rfl) HistOk.z<|JR.qt rfl (SubM.nil) (SubL.nil) (Y.fieldB rfl rfl rfl rfl rfl) HistOk.z<|JR.qt rfl (SubM.cons 5 rfl (SubM.nil)) (SubL.nil) (Y.loadB 0 rfl rfl rfl rfl rfl) HistOk.z<|JR.qt rfl (SubM.nil) (SubL.nil) (Y.move rfl) HistOk.z<|JR.qt rfl (SubM.nil) (SubL.nil) (Y.subW rfl rfl) HistOk.z ?_
   have h:=bnd h;obtain⟨r23,hr24,h⟩:=h
   refine JR.loud rfl rfl rfl (Loud.callL body65 (t_world_at fuel v0 r23 hr24) rfl (LentAll.cons (Lent.fact 0 rfl) .nil) (fun _ _=>rfl)) rfl (fun x25=>(BsOk.b rfl (BsOk.b rfl (BsOk.b rfl (BsOk.b rfl (BsOk.h (SubM.cons 0 rfl (SubM.nil)) (SubL.nil) (BsOk.h (SubM.cons 5 rfl (SubM.nil)) (SubL.nil) BsOk.z))))))) fun x25=>JR.qt rfl (SubM.nil) (SubL.nil) (Y.move rfl) (HistOk.h (SubM.nil) (SubL.nil) HistOk.z) ?_
   have h:=bnd h;obtain⟨r26,hr27,h⟩:=h
   refine JR.loud rfl rfl rfl (Loud.callL body64 (t_world_Within fuel  r26 hr27) rfl .nil (fun _ _=>rfl)) rfl (fun x28=>(BsOk.b rfl (BsOk.b rfl (BsOk.b rfl (BsOk.b rfl (BsOk.b rfl (BsOk.h (SubM.cons 0 rfl (SubM.nil)) (SubL.nil) (BsOk.h (SubM.cons 5 rfl (SubM.nil)) (SubL.nil) BsOk.z)))))))) fun x28=>JR.qt rfl (SubM.nil) (SubL.nil) (Y.move rfl) (HistOk.h (SubM.nil) (SubL.nil) (HistOk.h (SubM.nil) (SubL.nil) HistOk.z))<|JR.qt rfl (SubM.nil) (SubL.nil) (Y.fieldB rfl rfl rfl rfl rfl) (HistOk.h (SubM.nil) (SubL.nil) (HistOk.h (SubM.nil) (SubL.nil) HistOk.z))<|JR.qt rfl (SubM.cons 5 rfl (SubM.nil)) (SubL.nil) (Y.loadB 0 rfl rfl rfl rfl rfl) (HistOk.h (SubM.cons 5 rfl (SubM.nil)) (SubL.nil) (HistOk.h (SubM.cons 5 rfl (SubM.nil)) (SubL.nil) HistOk.z))<|JR.qt rfl (SubM.nil) (SubL.nil) (Y.move rfl) (HistOk.h (SubM.nil) (SubL.nil) (HistOk.h (SubM.nil) (SubL.nil) HistOk.z))<|JR.qt rfl (SubM.nil) (SubL.nil) (Y.subW rfl rfl) (HistOk.h (SubM.nil) (SubL.nil) (HistOk.h (SubM.nil) (SubL.nil) HistOk.z)) ?_
   have h:=bnd h;obtain⟨r29,hr30,h⟩:=h
   refine JR.loud rfl rfl rfl (Loud.callL body65 (t_world_at fuel v1 r29 hr30) rfl (LentAll.cons (Lent.fact 1 rfl) .nil) (fun _ _=>rfl)) rfl (fun x31=>(BsOk.b rfl (BsOk.b rfl (BsOk.b rfl (BsOk.b rfl (BsOk.h (SubM.nil) (SubL.nil) (BsOk.b rfl (BsOk.b rfl (BsOk.b rfl (BsOk.b rfl (BsOk.b rfl (BsOk.h (SubM.cons 0 rfl (SubM.nil)) (SubL.nil) (BsOk.h (SubM.cons 5 rfl (SubM.nil)) (SubL.nil) BsOk.z))))))))))))) fun x31=> ?_
   have h:=bnd h;obtain⟨r32,hr33,h⟩:=h
   refine JR.loud rfl rfl rfl (Loud.callL body64 (t_world_Within fuel  r32 hr33) rfl .nil (fun _ _=>rfl)) rfl (fun x34=>(BsOk.b rfl (BsOk.b rfl (BsOk.b rfl (BsOk.b rfl (BsOk.h (SubM.nil) (SubL.nil) (BsOk.b rfl (BsOk.b rfl (BsOk.b rfl (BsOk.b rfl (BsOk.b rfl (BsOk.h (SubM.cons 0 rfl (SubM.nil)) (SubL.nil) (BsOk.h (SubM.cons 5 rfl (SubM.nil)) (SubL.nil) BsOk.z))))))))))))) fun x34=>JR.qt rfl (SubM.nil) (SubL.nil) (Y.addW rfl rfl) (HistOk.b rfl (HistOk.b rfl (HistOk.b rfl (HistOk.b rfl HistOk.z))))<|JR.tailD 17 rfl rfl ?_
   have h:=bnd h;obtain⟨r35,hr36,h⟩:=h
   refine J.loud (Loud.callM (Min:=[Ar Enc.raw x5.2.1 b20,Rws EI64I64p b20 a19.2]) (Mr:=[Blk b6 [x5.1,x5.2.1] 25,Ar EI64 x5.1 r3.1,Blk b2 [Value.slice none 0 0,Value.slice none 0 0] 25,Blk b1 [Value.int .i64 (p0.1),v0,v1,v2,Value.bool (p0.2.2.2.2.1),Value.bool (p0.2.2.2.2.2)] 38]) body63 (t__world_Net__link fuel v0 v1 v2 x5.1 x5.2.1 b20 r35 hr36) rfl (SubM.cons 2 rfl (SubM.cons 2 rfl (SubM.cons 0 rfl (SubM.cons 0 rfl (SubM.cons 0 rfl (SubM.cons 0 rfl (SubM.nil))))))) (LentAll.cons (Lent.fact 0 rfl) (LentAll.cons (Lent.fact 1 rfl) (LentAll.cons (Lent.fact 2 rfl) (LentAll.cons (Lent.ar (Lent.res 1 rfl) FI64) .nil)))) (fun _ _=>rfl)) rfl fun x37=>J.done<|J.inN<|J.thenN<|J.region<|J.quiet (Y.move rfl) rfl<|J.quiet (Y.addW rfl rfl) rfl<|J.quiet (Y.assign rfl) rfl<|J.done<|J.thenN ?_
   exact J.againI ((wI .i64 (a19.1+(1:Int))),r35) (x37) h SF (SubM.cons 2 rfl (SubM.cons 2 rfl (SubM.cons 0 rfl (SubM.cons 0 rfl (SubM.cons 0 rfl (SubM.cons 0 rfl (SubM.nil))))))) (LentAll.refl _ _)
  ·have h:=ifN hp22 h
   refine J.exit<|J.thenX<|J.thenX<|J.inX<|J.thenN ?_
   exact J.meetI (a19.2) (b20) h SF (SubM.cons 0 rfl (SubM.cons 0 rfl (SubM.cons 0 rfl (SubM.cons 0 rfl (SubM.cons 0 rfl (SubM.nil)))))) (LentAll.refl _ _)
 ·clear h
  intro a11 b12 h
  unfold _world_Net__Tree_k1 at h
  refine J.seq<|J.region<|J.quiet (Y.loadBAll 0 rfl rfl rfl rfl) rfl<|J.know (Know.one ((Lent.ar (Lent.res 1 rfl) FI64))) fun ho13=>J.know (Know.one (Lent.sl (Lent.rows (i:=2) (j:=3) rfl rfl FI64I64p))) fun ho14=>J.storeAll 4 (vs:=[x5.1,x5.2.1]) rfl rfl (all1 ho13 (all1 ho14 rfl)) rfl rfl rfl<|J.done<|J.thenN<|J.ret ?_
  obtain rfl:=Option.some.inj h
  exact J.retG1 (x5.1,x5.2.1,b12) rfl rfl (RV.cell 4 rfl rfl rfl rfl) (SubM.cons 1 rfl (SubM.cons 1 rfl (SubM.cons 1 rfl (SubM.nil)))) LentAll.nil
end Go.Proofs.YtfbkplemadmbfaaGreatDoor
end
section
namespace Go.Proofs.YtfbkplemadmbfaaGreatDoor
open Go.Sx
def m_bits_TrailingZeros32 (fuel:Nat) (p0:Int):Option (Int):=
 if p0=(0:Int)then(some (32:Int))else(ck (0<=(27:Int)) (ck ((0<=(bShr .u32 (wI .u32 ((bAnd .u32 p0 (wI .u32 (0 - p0)))*(125613361:Int))) (27:Int))∧(bShr .u32 (wI .u32 ((bAnd .u32 p0 (wI .u32 (0 - p0)))*(125613361:Int))) (27:Int))<((32:Nat):Int))∧List.length tab0=32) (some (wI .i64 (at' tab0 (bShr .u32 (wI .u32 ((bAnd .u32 p0 (wI .u32 (0 - p0)))*(125613361:Int))) (27:Int)))))))
theorem body172:HasBody Tryz.prog 172:=Tryz.call172
theorem t_bits_TrailingZeros32 (fuel:Nat) {p0:Int} (r:Int) (h:m_bits_TrailingZeros32 fuel p0=some r):
  Meets Tryz.prog 172 #[Value.int .u32 (p0)] [Gb 0 (cellsOf EU8 tab0)] (fun x:Unit=>Value.int .i64 (r)) (fun x l=>l) (fun _ l=>l):=by
 refine Meets.of (vs:=[Value.int .u32 (p0)]) Tryz.func172 rfl Tryz.ntmps172 rfl fun c=> ?_
 unfold m_bits_TrailingZeros32 at h
 refine J.seq<|J.region<|J.quiet (Y.assign rfl) rfl<|J.done<|J.thenN<|J.seq<|J.seq<|J.region<|J.quiet (Y.move rfl) rfl<|J.quiet (Y.eql rfl rfl) rfl<|J.done<|J.thenN ?_
 refine J.condD (by exact rfl) (fun hp1=> ?_) (fun hp1=> ?_)
 ·have h:=ifP hp1 h
  refine J.seq<|J.region<|J.quiet (Y.assign rfl) rfl<|J.done<|J.thenN<|J.ret<|J.thenR ?_
  obtain rfl:=Option.some.inj h
  exact J.retG1 (()) rfl rfl (RV.tmp rfl) (SubM.refl _) LentAll.nil
 ·have h:=ifN hp1 h
  refine J.skip<|J.thenN<|J.seq<|J.region<|J.quiet (Y.move rfl) rfl<|J.quiet (Y.move rfl) rfl<|J.quiet (Y.neg rfl) rfl<|J.quiet (Y.and rfl rfl) rfl<|J.quiet (Y.mulW rfl rfl) rfl ?_
  have h:=ck_some h;obtain⟨hc2,h⟩:=h
  refine J.quiet (Y.shr rfl rfl hc2) rfl ?_
  have h:=ck_some h;obtain⟨hc3,h⟩:=h
  refine J.quiet (Y.indexArrK rfl rfl rfl rfl rfl hc3.1) rfl<|J.quiet (Y.loadGlb (e:=EU8) rfl (Lent.fact 0 rfl) rfl rfl rfl rfl hc3) rfl<|J.quiet (Y.conv rfl rfl rfl) rfl<|J.quiet (Y.assign rfl) rfl<|J.done<|J.thenN<|J.ret ?_
  obtain rfl:=Option.some.inj h
  exact J.retG1 (()) rfl rfl (RV.tmp rfl) (SubM.refl _) LentAll.nil
end Go.Proofs.YtfbkplemadmbfaaGreatDoor
end
section
namespace Go.Proofs.YtfbkplemadmbfaaGreatDoor
open Go.Sx
def _daemon_Net__independent_k1  (a7:Unit):Option (Bool):=
 some (true)
def _daemon_Net__independent_s1 (fuel:Nat) (p0:List (Int)) (p1:Int) (a18:Int) (ag17:(Int)->Option (Bool)):Option (Bool):=
 if a18≠(0:Int)then(Option.bind (m_bits_TrailingZeros32 fuel a18) fun r22=>(ck (0<=r22∧r22<(List.length p0:Int)) (if(bAnd .u32 (at' p0 r22) p1)≠(0:Int)then(some (false))else(ag17 (bAnd .u32 a18 (wI .u32 (a18 - (1:Int))))))))else(_daemon_Net__independent_k1  (()))
def _daemon_Net__independent_k2 (fuel:Nat) (p0:List (Int)) (p1:Int) (a10:Unit):Option (Bool):=
 iter (_daemon_Net__independent_s1 fuel p0 p1) fuel (p1)
def m__daemon_Net__independent (fuel:Nat) (p0:List (Int)) (p1:Int):Option (Bool):=
 _daemon_Net__independent_k2 fuel p0 p1 (())
theorem body166:HasBody Tryz.prog 166:=Tryz.call166
theorem t__daemon_Net__independent (fuel:Nat) {p0:List (Int)} {p1:Int} (v0:Value) (r:Bool) (h:m__daemon_Net__independent fuel p0 p1=some r):
  Meets Tryz.prog 166 #[v0,Value.int .u32 (p1)] [Sl RU32 v0 p0,Gb 0 (cellsOf EU8 tab0)] (fun x:Unit=>Value.bool (r)) (fun x l=>l) (fun _ l=>l):=by
 refine Meets.of (vs:=[v0,Value.int .u32 (p1)]) Tryz.func166 rfl Tryz.ntmps166 rfl fun c=> ?_
 unfold m__daemon_Net__independent at h
 refine J.stp Stp.dfs0<|J.seq<|J.region<|J.know (Know.one ((Lent.fact 0 rfl))) fun ho3=> ?_
 refine J.loud (Loud.box (cs:=[v0]) rfl (by rw[one_cells ho3])) rfl fun b2=> ?_
 refine J.loud (Loud.box (cs:=[Value.int .u32 (p1)]) rfl rfl) rfl fun b4=>J.loud (Loud.alloc (cs:=[Value.bool (false)]) rfl rfl) rfl fun b5=>J.done<|J.thenN<|J.seq<|J.midN (A:=Unit) (B:=List Nat) (fun a7 b8=>⟨16,marks b8⟩) (fun a7=>_daemon_Net__independent_k1  a7=some r) (fun a7 b8=>[(4,Value.pointer (some ⟨b5,0,none⟩))]) (fun a7 b8=>[Blk b5 [Value.bool (false)] 4,Dfs b8]) (fun a7 b8=>[Sl RU32 v0 p0,Gb 0 (cellsOf EU8 tab0)]) ?_ ?_
 ·refine J.seq<|J.region<|J.quiet (Y.loadB 1 rfl rfl rfl rfl rfl) rfl<|J.inlC (A:=Unit) (B:=Nat) (vs:=[Value.int .u32 (p1)]) (fun a10=>_daemon_Net__independent_k2 fuel p0 p1 a10=some r) (fun a10 b11=>Value.func (.func 171) #[] #[Value.pointer (some ⟨b11,0,none⟩)]) (fun a10 b11=>[Blk b11 [Value.int .u32 (p1)] 26,Blk b5 [Value.bool (false)] 4,Blk b4 [Value.int .u32 (p1)] 26,Blk b2 [v0] 93,Dfs ([]:List Nat)]) (fun a10 b11=>[Sl RU32 v0 p0,Gb 0 (cellsOf EU8 tab0)]) (Enter.fn (show HasBody Tryz.prog 138 from Tryz.call138) rfl) Tryz.func138 rfl Tryz.ntmps138 rfl rfl ?_ ?_
  ·refine J.seq<|J.region<|J.loud (Loud.box (cs:=[Value.int .u32 (p1)]) rfl rfl) rfl fun b27=>J.quiet (Y.assign rfl) rfl<|J.done<|J.thenN<|J.seq<|J.region<|J.quiet (Y.makeFunc (cs:=[.tmp 1]) (vs:=[Value.pointer (some ⟨b27,0,none⟩)]) rfl) rfl<|J.quiet (Y.assign rfl) rfl<|J.done<|J.thenN<|J.ret ?_
   exact J.retM (()) (b27) h (.inl rfl) (Res.r1 rfl (RV.tmp rfl)) rfl (SubM.refl _) (LentAll.refl _ _)
  ·clear h
   intro a10 b11 h
   unfold _daemon_Net__independent_k2 at h
   refine J.done<|J.thenN<|J.block<|J.rangeFuncD (i:=4) (cs:=[Value.pointer (some ⟨b11,0,none⟩)]) ([]:List Nat) rfl (show HasBody Tryz.prog 171 from Tryz.call171) rfl Tryz.func171 rfl Tryz.ntmps171 rfl fun l12 D13 R14 hR15=>J.block<|J.loopI (A:=Int) (B:=Unit) (_daemon_Net__independent_s1 fuel p0 p1) (fun a18 b19=>[(0,yieldV l12),(1,Value.pointer (some ⟨b11,0,none⟩))]) (fun a18 b19=>[Lp l12 R14 LoopState.ready none,Blk b11 [Value.int .u32 (a18)] 26,Blk b5 [Value.bool (false)] 4,Blk b4 [Value.int .u32 (p1)] 26,Blk b2 [v0] 93,Dfs (List.cons D13 ([]:List Nat))]) (fun a18 b19=>[Sl RU32 v0 p0,Gb 0 (cellsOf EU8 tab0)]) (p1) (()) h SF (SubM.refl _) (LentAll.refl _ _) ?_
   clear h
   intro k20 a18 b19 h
   unfold _daemon_Net__independent_s1 at h
   refine J.seq<|J.seq<|J.region<|J.quiet (Y.loadB 1 rfl rfl rfl rfl rfl) rfl<|J.quiet (Y.neq rfl rfl) rfl<|J.done<|J.thenN ?_
   refine J.condD (by exact rfl) (fun hp21=> ?_) (fun hp21=> ?_)
   ·have h:=ifP hp21 h
    refine J.skip<|J.thenN<|J.seq<|J.block<|J.seq<|J.region<|J.quiet (Y.move rfl) rfl<|J.quiet (Y.loadB 1 rfl rfl rfl rfl rfl) rfl ?_
    have h:=bnd h;obtain⟨r22,hr23,h⟩:=h
    refine J.loud (Loud.callL body172 (t_bits_TrailingZeros32 fuel  r22 hr23) rfl (LentAll.cons (Lent.fact 1 rfl) .nil) (fun _ _=>rfl)) rfl fun x24=>J.yieldR (us:=[Value.int .i64 (r22)]) (i:=0) hR15 rfl rfl rfl rfl rfl rfl<|J.region<|J.quiet (Y.assign rfl) rfl<|J.done<|J.thenN<|J.begin (i:=0) rfl<|J.block<|J.seq ?_
    refine JR.start [0,0,3,7,0,31,63] 5 mixedOrders (by decide +kernel) ?_
    refine JR.open (by exact rfl) ?_
    refine JR.qt rfl (SubM.cons 4 rfl (SubM.nil)) (SubL.nil) (Y.loadB 0 rfl rfl rfl rfl rfl) HistOk.z<|JR.qt rfl (SubM.nil) (SubL.nil) (Y.move rfl) HistOk.z ?_
    have h:=ck_some h;obtain⟨hc25,h⟩:=h
    refine JR.qt rfl (SubM.nil) (SubL.cons (List.mem_of_getElem? (i:=0) rfl) (SubL.nil)) (Y.indexS rfl rfl (Lent.fact 0 rfl) rfl rfl hc25) HistOk.z<|JR.qt rfl (SubM.nil) (SubL.cons (List.mem_of_getElem? (i:=0) rfl) (SubL.nil)) (Y.loadS0 rfl (Lent.fact 0 rfl) rfl rfl rfl RU32c0 hc25) HistOk.z<|JR.qt rfl (SubM.cons 3 rfl (SubM.nil)) (SubL.nil) (Y.loadB 0 rfl rfl rfl rfl rfl) HistOk.z<|JR.tailD 5 rfl rfl<|J.quiet (Y.and rfl rfl) rfl<|J.quiet (Y.neq rfl rfl) rfl<|J.done<|J.thenN ?_
    refine J.condD (by exact rfl) (fun hp26=> ?_) (fun hp26=> ?_)
    ·have h:=ifP hp26 h
     refine J.seq<|J.region<|J.store1 2 rfl rfl rfl rfl rfl rfl<|J.done<|J.thenN<|J.ret<|J.inR<|J.roundR (i:=0) rfl<|J.quiet (Y.not rfl) rfl<|J.done<|J.thenN<|J.condT rfl<|J.ret<|J.inR<|J.thenR<|J.thenR<|J.inR<|J.retFR (i:=0) (.inl rfl) rfl (Res.r0 rfl)<|J.inR<|J.thenR<|J.unmarkAll (i:=5) (Ds:=(List.cons D13 ([]:List Nat))) (.inl rfl) rfl ?_
     obtain rfl:=Option.some.inj h
     exact J.retG1 (()) rfl rfl (RV.cell1 2 rfl rfl rfl rfl) (SubM.nil) LentAll.nil
    ·have h:=ifN hp26 h
     refine J.skip<|J.inN<|J.roundN (i:=0) rfl<|J.quiet (Y.not rfl) rfl<|J.done<|J.thenN<|J.condF rfl<|J.skip<|J.inN<|J.thenN<|J.region<|J.quiet (Y.loadB 1 rfl rfl rfl rfl rfl) rfl<|J.quiet (Y.loadB 1 rfl rfl rfl rfl rfl) rfl<|J.quiet (Y.subW rfl rfl) rfl<|J.quiet (Y.and rfl rfl) rfl<|J.store1 1 rfl rfl rfl rfl rfl rfl<|J.done<|J.thenN ?_
     exact J.againI (bAnd .u32 a18 (wI .u32 (a18 - (1:Int)))) (()) h SF (SubM.refl _) (LentAll.refl _ _)
   ·have h:=ifN hp21 h
    refine J.exit<|J.thenX<|J.thenX<|J.inX<|J.retF (i:=0) (.inr rfl) rfl (Res.r0 rfl)<|J.inN<|J.thenN ?_
    exact J.meetN (()) (List.cons D13 ([]:List Nat)) rfl h SF (SubM.cons 2 rfl (SubM.cons 4 rfl (SubM.nil))) (LentAll.refl _ _)
 ·clear h
  intro a7 b8 h
  unfold _daemon_Net__independent_k1 at h
  refine J.seq<|J.region<|J.store1 0 rfl rfl rfl rfl rfl rfl<|J.done<|J.thenN<|J.ret<|J.unmarkAll (i:=1) (Ds:=(b8)) (.inl rfl) rfl ?_
  obtain rfl:=Option.some.inj h
  exact J.retG1 (()) rfl rfl (RV.cell1 0 rfl rfl rfl rfl) (SubM.nil) LentAll.nil
end Go.Proofs.YtfbkplemadmbfaaGreatDoor
end
section
namespace Go.Proofs.YtfbkplemadmbfaaGreatDoor
open Go.Sx
def _daemon_Net__Permits_k1 (fuel:Nat) (p0:List (Int)) (p1:Int) (p2:Int) (p3:Int) (a2:Bool):Option (Bool):=
 if a2=true then(some (false))else(if p1=(1:Int)then(some (decide ((bAnd .u32 p3 (wI .u32 (p3 - (1:Int))))=(0:Int))))else(if p1=(2:Int)then(Option.bind (m__daemon_Net__independent fuel p0 p3) fun r7=>(some (r7)))else(if p1=(4:Int)then(some (decide (p3=p2)))else(some (true)))))
def m__daemon_Net__Permits (fuel:Nat) (p0:List (Int)) (p1:Int) (p2:Int) (p3:Int):Option (Bool):=
 if p3=(0:Int)then(_daemon_Net__Permits_k1 fuel p0 p1 p2 p3 (true))else(_daemon_Net__Permits_k1 fuel p0 p1 p2 p3 (decide ((bAndNot .u32 p3 p2)≠(0:Int))))
theorem body135:HasBody Tryz.prog 135:=Tryz.call135
theorem t__daemon_Net__Permits (fuel:Nat) {p0:List (Int)} {p1:Int} {p2:Int} {p3:Int} (v0:Value) (r:Bool) (h:m__daemon_Net__Permits fuel p0 p1 p2 p3=some r):
  Meets Tryz.prog 135 #[v0,Value.int .i64 (p1),Value.int .u32 (p2),Value.int .u32 (p3)] [Sl RU32 v0 p0,Gb 0 (cellsOf EU8 tab0)] (fun x:Unit=>Value.bool (r)) (fun x l=>l) (fun _ l=>l):=by
 refine Meets.of (vs:=[v0,Value.int .i64 (p1),Value.int .u32 (p2),Value.int .u32 (p3)]) Tryz.func135 rfl Tryz.ntmps135 rfl fun c=> ?_
 unfold m__daemon_Net__Permits at h
 refine J.seq<|J.region<|J.quiet (Y.assign rfl) rfl<|J.done<|J.thenN<|J.seq<|J.seq<|J.midI (A:=Bool) (B:=Unit) (fun a2=>_daemon_Net__Permits_k1 fuel p0 p1 p2 p3 a2=some r) (fun a2 b3=>[(0,v0),(1,Value.int .i64 (p1)),(2,Value.int .u32 (p2)),(3,Value.int .u32 (p3)),(16,Value.bool (a2))]) (fun a2 b3=>[]) (fun a2 b3=>[Sl RU32 v0 p0,Gb 0 (cellsOf EU8 tab0)]) ?_ ?_
 ·refine J.region<|J.quiet (Y.move rfl) rfl<|J.quiet (Y.eql rfl rfl) rfl<|J.quiet (Y.move rfl) rfl ?_
  refine J.guardD (by exact rfl) (by exact rfl) (fun hp11=> ?_) (fun hp11=> ?_)
  ·have h:=ifP hp11 h
   refine J.guardN rfl rfl rfl<|J.guardN rfl rfl rfl<|J.guardN rfl rfl rfl<|J.guardN rfl rfl rfl<|J.quiet (Y.pickT rfl rfl) rfl<|J.done<|J.thenN ?_
   exact J.meetI (true) (()) h SF (SubM.refl _) (LentAll.refl _ _)
  ·have h:=ifN hp11 h
   refine J.guardY rfl (Y.move rfl) rfl<|J.guardY rfl (Y.move rfl) rfl<|J.guardY rfl (Y.andNot rfl rfl) rfl<|J.guardY rfl (Y.neq rfl rfl) rfl<|J.quiet (Y.pickF rfl rfl) rfl<|J.done<|J.thenN ?_
   exact J.meetI (decide ((bAndNot .u32 p3 p2)≠(0:Int))) (()) h SF (SubM.refl _) (LentAll.refl _ _)
 ·clear h
  intro a2 b3 h
  unfold _daemon_Net__Permits_k1 at h
  refine J.cond (by exact rfl) (fun hp4=> ?_) (fun hp4=> ?_)
  ·have h:=ifP hp4 h
   refine J.seq<|J.region<|J.quiet (Y.assign rfl) rfl<|J.done<|J.thenN<|J.ret<|J.thenR ?_
   obtain rfl:=Option.some.inj h
   exact J.retG1 (()) rfl rfl (RV.tmp rfl) (SubM.refl _) LentAll.nil
  ·have h:=ifBN hp4 h
   refine J.skip<|J.thenN<|J.seq<|J.seq<|J.region<|J.quiet (Y.move rfl) rfl<|J.done<|J.thenN<|J.block<|J.seq<|J.region<|J.quiet (Y.eql rfl rfl) rfl<|J.quiet (Y.assign rfl) rfl<|J.done<|J.thenN ?_
   refine J.condD (by exact rfl) (fun hp5=> ?_) (fun hp5=> ?_)
   ·have h:=ifP hp5 h
    refine J.seq<|J.region<|J.quiet (Y.move rfl) rfl<|J.quiet (Y.move rfl) rfl<|J.quiet (Y.subW rfl rfl) rfl<|J.quiet (Y.and rfl rfl) rfl<|J.quiet (Y.eql rfl rfl) rfl<|J.quiet (Y.assign rfl) rfl<|J.done<|J.thenN<|J.ret<|J.inR<|J.thenR ?_
    obtain rfl:=Option.some.inj h
    exact J.retG1 (()) rfl rfl (RV.tmp rfl) (SubM.refl _) LentAll.nil
   ·have h:=ifN hp5 h
    refine J.seq<|J.region<|J.quiet (Y.eql rfl rfl) rfl<|J.quiet (Y.assign rfl) rfl<|J.done<|J.thenN ?_
    refine J.condD (by exact rfl) (fun hp6=> ?_) (fun hp6=> ?_)
    ·have h:=ifP hp6 h
     refine J.seq<|J.region<|J.quiet (Y.move rfl) rfl<|J.quiet (Y.move rfl) rfl ?_
     have h:=bnd h;obtain⟨r7,hr8,h⟩:=h
     refine J.loud (Loud.callL body166 (t__daemon_Net__independent fuel v0 r7 hr8) rfl (LentAll.cons (Lent.fact 0 rfl) (LentAll.cons (Lent.fact 1 rfl) .nil)) (fun _ _=>rfl)) rfl fun x9=>J.quiet (Y.assign rfl) rfl<|J.done<|J.thenN<|J.ret<|J.inR<|J.thenR ?_
     obtain rfl:=Option.some.inj h
     exact J.retG1 (()) rfl rfl (RV.tmp rfl) (SubM.refl _) LentAll.nil
    ·have h:=ifN hp6 h
     refine J.seq<|J.region<|J.quiet (Y.eql rfl rfl) rfl<|J.quiet (Y.assign rfl) rfl<|J.done<|J.thenN ?_
     refine J.condD (by exact rfl) (fun hp10=> ?_) (fun hp10=> ?_)
     ·have h:=ifP hp10 h
      refine J.seq<|J.region<|J.quiet (Y.move rfl) rfl<|J.quiet (Y.move rfl) rfl<|J.quiet (Y.eql rfl rfl) rfl<|J.quiet (Y.assign rfl) rfl<|J.done<|J.thenN<|J.ret<|J.inR<|J.thenR ?_
      obtain rfl:=Option.some.inj h
      exact J.retG1 (()) rfl rfl (RV.tmp rfl) (SubM.refl _) LentAll.nil
     ·have h:=ifN hp10 h
      refine J.skip<|J.inN<|J.thenN<|J.seq<|J.region<|J.quiet (Y.assign rfl) rfl<|J.done<|J.thenN<|J.ret ?_
      obtain rfl:=Option.some.inj h
      exact J.retG1 (()) rfl rfl (RV.tmp rfl) (SubM.refl _) LentAll.nil
end Go.Proofs.YtfbkplemadmbfaaGreatDoor
end
section
namespace Go.Proofs.YtfbkplemadmbfaaGreatDoor
open Go.Sx
def _daemon_Net__Resolve_k2  (a12:Int):Option (Int):=
 some (a12)
def _daemon_Net__Resolve_k4 (a24:Int×Int) (ag23:(Int×Int)->Option (Int)) (a29:Int):Option (Int):=
 ag23 ((bAnd .u32 a24.1 (wI .u32 (a24.1 - (1:Int)))),a29)
def _daemon_Net__Resolve_s1 (fuel:Nat) (p0:List (Int)) (a24:Int×Int) (ag23:(Int×Int)->Option (Int)):Option (Int):=
 if a24.1≠(0:Int)then(Option.bind (m_bits_TrailingZeros32 fuel a24.1) fun r31=>(ck (0<=r31∧r31<(List.length p0:Int)) (if(bAnd .u32 (at' p0 r31) a24.2)=(0:Int)then(ck (0<=r31) (_daemon_Net__Resolve_k4 a24 ag23 (bOr .u32 a24.2 (bShl .u32 (1:Int) r31))))else(_daemon_Net__Resolve_k4 a24 ag23 (a24.2)))))else(_daemon_Net__Resolve_k2  (a24.2))
def _daemon_Net__Resolve_k3 (fuel:Nat) (p0:List (Int)) (a5:Int) (a15:Unit):Option (Int):=
 iter (_daemon_Net__Resolve_s1 fuel p0) fuel (a5,(0:Int))
def _daemon_Net__Resolve_k1 (fuel:Nat) (p0:List (Int)) (p1:Int) (p2:Int) (a5:Int):Option (Int):=
 if p1=(1:Int)then(some (bAnd .u32 a5 (wI .u32 (0 - a5))))else(if p1=(2:Int)then(_daemon_Net__Resolve_k3 fuel p0 a5 (()))else(if p1=(4:Int)then(some (p2))else(some (a5))))
def m__daemon_Net__Resolve (fuel:Nat) (p0:List (Int)) (p1:Int) (p2:Int) (p3:Int):Option (Int):=
 if(bAnd .u32 p3 p2)=(0:Int)then(_daemon_Net__Resolve_k1 fuel p0 p1 p2 (bAnd .u32 p2 (wI .u32 (0 - p2))))else(_daemon_Net__Resolve_k1 fuel p0 p1 p2 (bAnd .u32 p3 p2))
theorem body105:HasBody Tryz.prog 105:=Tryz.call105
theorem t__daemon_Net__Resolve (fuel:Nat) {p0:List (Int)} {p1:Int} {p2:Int} {p3:Int} (v0:Value) (r:Int) (h:m__daemon_Net__Resolve fuel p0 p1 p2 p3=some r):
  Meets Tryz.prog 105 #[v0,Value.int .i64 (p1),Value.int .u32 (p2),Value.int .u32 (p3)] [Sl RU32 v0 p0,Gb 0 (cellsOf EU8 tab0)] (fun x:Unit=>Value.int .u32 (r)) (fun x l=>l) (fun _ l=>l):=by
 refine Meets.of (vs:=[v0,Value.int .i64 (p1),Value.int .u32 (p2),Value.int .u32 (p3)]) Tryz.func105 rfl Tryz.ntmps105 rfl fun c=> ?_
 unfold m__daemon_Net__Resolve at h
 refine J.stp Stp.dfs0<|J.seq<|J.region<|J.know (Know.one ((Lent.fact 0 rfl))) fun ho3=> ?_
 refine J.loud (Loud.box (cs:=[v0]) rfl (by rw[one_cells ho3])) rfl fun b2=> ?_
 refine J.quiet (Y.assign rfl) rfl<|J.done<|J.thenN<|J.seq<|J.region<|J.quiet (Y.move rfl) rfl<|J.quiet (Y.move rfl) rfl<|J.quiet (Y.and rfl rfl) rfl<|J.quiet (Y.assign rfl) rfl<|J.done<|J.thenN<|J.seq<|J.midN (A:=Int) (B:=Unit) (fun a5 b6=>⟨48,marks ([]:List Nat)⟩) (fun a5=>_daemon_Net__Resolve_k1 fuel p0 p1 p2 a5=some r) (fun a5 b6=>[(1,Value.int .i64 (p1)),(2,Value.int .u32 (p2)),(3,Value.int .u32 (a5)),(4,Value.pointer (some ⟨b2,0,none⟩)),(8,Value.int .u32 (0:Int))]) (fun a5 b6=>[Blk b2 [v0] 93,Dfs ([]:List Nat)]) (fun a5 b6=>[Sl RU32 v0 p0,Gb 0 (cellsOf EU8 tab0)]) ?_ ?_
 ·refine J.seq<|J.region<|J.quiet (Y.move rfl) rfl<|J.quiet (Y.eql rfl rfl) rfl<|J.done<|J.thenN ?_
  refine J.condD (by exact rfl) (fun hp39=> ?_) (fun hp39=> ?_)
  ·have h:=ifP hp39 h
   refine J.region<|J.quiet (Y.move rfl) rfl<|J.quiet (Y.move rfl) rfl<|J.quiet (Y.neg rfl) rfl<|J.quiet (Y.and rfl rfl) rfl<|J.quiet (Y.assign rfl) rfl<|J.done<|J.thenN ?_
   exact J.meetN (bAnd .u32 p2 (wI .u32 (0 - p2))) (()) rfl h SF (SubM.refl _) (LentAll.refl _ _)
  ·have h:=ifN hp39 h
   refine J.skip<|J.thenN ?_
   exact J.meetN (bAnd .u32 p3 p2) (()) rfl h SF (SubM.refl _) (LentAll.refl _ _)
 ·clear h
  intro a5 b6 h
  unfold _daemon_Net__Resolve_k1 at h
  refine J.seq<|J.seq<|J.region<|J.quiet (Y.move rfl) rfl<|J.done<|J.thenN<|J.block<|J.seq<|J.region<|J.quiet (Y.eql rfl rfl) rfl<|J.quiet (Y.assign rfl) rfl<|J.done<|J.thenN ?_
  refine J.condD (by exact rfl) (fun hp7=> ?_) (fun hp7=> ?_)
  ·have h:=ifP hp7 h
   refine J.seq<|J.region<|J.quiet (Y.move rfl) rfl<|J.quiet (Y.move rfl) rfl<|J.quiet (Y.neg rfl) rfl<|J.quiet (Y.and rfl rfl) rfl<|J.quiet (Y.assign rfl) rfl<|J.done<|J.thenN<|J.ret<|J.inR<|J.thenR<|J.unmarkAll (i:=1) (Ds:=([]:List Nat)) (.inl rfl) rfl ?_
   obtain rfl:=Option.some.inj h
   exact J.retG1 (()) rfl rfl (RV.tmp rfl) (SubM.nil) LentAll.nil
  ·have h:=ifN hp7 h
   refine J.seq<|J.region<|J.quiet (Y.eql rfl rfl) rfl<|J.quiet (Y.assign rfl) rfl<|J.done<|J.thenN ?_
   refine J.condD (by exact rfl) (fun hp8=> ?_) (fun hp8=> ?_)
   ·have h:=ifP hp8 h
    refine J.seq<|J.region<|J.loud (Loud.alloc (cs:=[Value.int .u32 (0:Int)]) rfl rfl) rfl fun b9=>J.store1 0 rfl rfl rfl rfl rfl rfl<|J.done<|J.thenN<|J.seq<|J.midN (A:=Int) (B:=List Nat) (fun a12 b13=>⟨48,marks b13⟩) (fun a12=>_daemon_Net__Resolve_k2  a12=some r) (fun a12 b13=>[(9,Value.pointer (some ⟨b9,0,none⟩))]) (fun a12 b13=>[Blk b9 [Value.int .u32 (a12)] 26,Dfs b13]) (fun a12 b13=>[Sl RU32 v0 p0,Gb 0 (cellsOf EU8 tab0)]) ?_ ?_
    ·refine J.seq<|J.region<|J.quiet (Y.move rfl) rfl<|J.inlC (A:=Unit) (B:=Nat) (vs:=[Value.int .u32 (a5)]) (fun a15=>_daemon_Net__Resolve_k3 fuel p0 a5 a15=some r) (fun a15 b16=>Value.func (.func 171) #[] #[Value.pointer (some ⟨b16,0,none⟩)]) (fun a15 b16=>[Blk b16 [Value.int .u32 (a5)] 26,Blk b9 [Value.int .u32 (0:Int)] 26,Blk b2 [v0] 93,Dfs ([]:List Nat)]) (fun a15 b16=>[Sl RU32 v0 p0,Gb 0 (cellsOf EU8 tab0)]) (Enter.fn (show HasBody Tryz.prog 138 from Tryz.call138) rfl) Tryz.func138 rfl Tryz.ntmps138 rfl rfl ?_ ?_
     ·refine J.seq<|J.region<|J.loud (Loud.box (cs:=[Value.int .u32 (a5)]) rfl rfl) rfl fun b37=>J.quiet (Y.assign rfl) rfl<|J.done<|J.thenN<|J.seq<|J.region<|J.quiet (Y.makeFunc (cs:=[.tmp 1]) (vs:=[Value.pointer (some ⟨b37,0,none⟩)]) rfl) rfl<|J.quiet (Y.assign rfl) rfl<|J.done<|J.thenN<|J.ret ?_
      exact J.retM (()) (b37) h (.inl rfl) (Res.r1 rfl (RV.tmp rfl)) rfl (SubM.refl _) (LentAll.refl _ _)
     ·clear h
      intro a15 b16 h
      unfold _daemon_Net__Resolve_k3 at h
      refine J.done<|J.thenN<|J.block<|J.rangeFuncD (i:=3) (cs:=[Value.pointer (some ⟨b16,0,none⟩)]) ([]:List Nat) rfl (show HasBody Tryz.prog 171 from Tryz.call171) rfl Tryz.func171 rfl Tryz.ntmps171 rfl fun l17 D18 R19 hR20=>J.block<|J.loopI (A:=Int×Int) (B:=Unit) (_daemon_Net__Resolve_s1 fuel p0) (fun a24 b25=>[(0,yieldV l17),(1,Value.pointer (some ⟨b16,0,none⟩))]) (fun a24 b25=>[Lp l17 R19 LoopState.ready none,Blk b16 [Value.int .u32 (a24.1)] 26,Blk b9 [Value.int .u32 (a24.2)] 26,Blk b2 [v0] 93,Dfs (List.cons D18 ([]:List Nat))]) (fun a24 b25=>[Sl RU32 v0 p0,Gb 0 (cellsOf EU8 tab0)]) (a5,(0:Int)) (()) h SF (SubM.refl _) (LentAll.refl _ _) ?_
      clear h
      intro k26 a24 b25 h
      unfold _daemon_Net__Resolve_s1 at h
      refine J.seq<|J.seq<|J.region<|J.quiet (Y.loadB 1 rfl rfl rfl rfl rfl) rfl<|J.quiet (Y.neq rfl rfl) rfl<|J.done<|J.thenN ?_
      refine J.condD (by exact rfl) (fun hp27=> ?_) (fun hp27=> ?_)
      ·have h:=ifP hp27 h
       refine J.skip<|J.thenN<|J.seq<|J.midI (A:=Int) (B:=Unit) (fun a29=>_daemon_Net__Resolve_k4 a24 (iter (_daemon_Net__Resolve_s1 fuel p0) k26) a29=some r) (fun a29 b30=>[(0,yieldV l17),(1,Value.pointer (some ⟨b16,0,none⟩))]) (fun a29 b30=>[Lp l17 R19 LoopState.ready none,Blk b16 [Value.int .u32 (a24.1)] 26,Blk b9 [Value.int .u32 (a29)] 26,Blk b2 [v0] 93,Dfs (List.cons D18 ([]:List Nat))]) (fun a29 b30=>[Sl RU32 v0 p0,Gb 0 (cellsOf EU8 tab0)]) ?_ ?_
       ·refine J.block<|J.seq<|J.region<|J.quiet (Y.move rfl) rfl<|J.quiet (Y.loadB 1 rfl rfl rfl rfl rfl) rfl ?_
        have h:=bnd h;obtain⟨r31,hr32,h⟩:=h
        refine J.loud (Loud.callL body172 (t_bits_TrailingZeros32 fuel  r31 hr32) rfl (LentAll.cons (Lent.fact 1 rfl) .nil) (fun _ _=>rfl)) rfl fun x33=>J.yieldR (us:=[Value.int .i64 (r31)]) (i:=0) hR20 rfl rfl rfl rfl rfl rfl<|J.region<|J.quiet (Y.assign rfl) rfl<|J.done<|J.thenN<|J.begin (i:=0) rfl<|J.block<|J.seq ?_
        refine JR.start [0,0,3,7,0,31,63] 5 mixedOrders (by decide +kernel) ?_
        refine JR.open (by exact rfl) ?_
        refine JR.qt rfl (SubM.cons 3 rfl (SubM.nil)) (SubL.nil) (Y.loadB 0 rfl rfl rfl rfl rfl) HistOk.z<|JR.qt rfl (SubM.nil) (SubL.nil) (Y.move rfl) HistOk.z ?_
        have h:=ck_some h;obtain⟨hc34,h⟩:=h
        refine JR.qt rfl (SubM.nil) (SubL.cons (List.mem_of_getElem? (i:=0) rfl) (SubL.nil)) (Y.indexS rfl rfl (Lent.fact 0 rfl) rfl rfl hc34) HistOk.z<|JR.qt rfl (SubM.nil) (SubL.cons (List.mem_of_getElem? (i:=0) rfl) (SubL.nil)) (Y.loadS0 rfl (Lent.fact 0 rfl) rfl rfl rfl RU32c0 hc34) HistOk.z<|JR.qt rfl (SubM.cons 2 rfl (SubM.nil)) (SubL.nil) (Y.loadB 0 rfl rfl rfl rfl rfl) HistOk.z<|JR.tailD 5 rfl rfl<|J.quiet (Y.and rfl rfl) rfl<|J.quiet (Y.eql rfl rfl) rfl<|J.done<|J.thenN ?_
        refine J.condD (by exact rfl) (fun hp35=> ?_) (fun hp35=> ?_)
        ·have h:=ifP hp35 h
         refine JR.start [0,0,2,7,15] 3 mixedOrders (by decide +kernel) ?_
         refine JR.open (by exact rfl) ?_
         refine JR.qt rfl (SubM.cons 2 rfl (SubM.nil)) (SubL.nil) (Y.loadB 0 rfl rfl rfl rfl rfl) HistOk.z<|JR.qt rfl (SubM.nil) (SubL.nil) (Y.move rfl) HistOk.z ?_
         have h:=ck_some h;obtain⟨hc36,h⟩:=h
         refine JR.qt rfl (SubM.nil) (SubL.nil) (Y.shl rfl rfl hc36) HistOk.z<|JR.tailD 3 rfl rfl<|J.quiet (Y.or rfl rfl) rfl<|J.store1 2 rfl rfl rfl rfl rfl rfl<|J.done<|J.inN<|J.roundN (i:=0) rfl<|J.quiet (Y.not rfl) rfl<|J.done<|J.thenN<|J.condF rfl<|J.skip<|J.inN<|J.thenN ?_
         exact J.meetI (bOr .u32 a24.2 (bShl .u32 (1:Int) r31)) (()) h SF (SubM.refl _) (LentAll.refl _ _)
        ·have h:=ifN hp35 h
         refine J.skip<|J.inN<|J.roundN (i:=0) rfl<|J.quiet (Y.not rfl) rfl<|J.done<|J.thenN<|J.condF rfl<|J.skip<|J.inN<|J.thenN ?_
         exact J.meetI (a24.2) (()) h SF (SubM.refl _) (LentAll.refl _ _)
       ·clear h
        intro a29 b30 h
        unfold _daemon_Net__Resolve_k4 at h
        refine J.region<|J.quiet (Y.loadB 1 rfl rfl rfl rfl rfl) rfl<|J.quiet (Y.loadB 1 rfl rfl rfl rfl rfl) rfl<|J.quiet (Y.subW rfl rfl) rfl<|J.quiet (Y.and rfl rfl) rfl<|J.store1 1 rfl rfl rfl rfl rfl rfl<|J.done<|J.thenN ?_
        exact J.againI ((bAnd .u32 a24.1 (wI .u32 (a24.1 - (1:Int)))),a29) (()) h SF (SubM.refl _) (LentAll.refl _ _)
      ·have h:=ifN hp27 h
       refine J.exit<|J.thenX<|J.thenX<|J.inX<|J.retF (i:=0) (.inr rfl) rfl (Res.r0 rfl)<|J.inN<|J.thenN ?_
       exact J.meetN (a24.2) (List.cons D18 ([]:List Nat)) rfl h SF (SubM.cons 2 rfl (SubM.cons 3 rfl (SubM.nil))) (LentAll.refl _ _)
    ·clear h
     intro a12 b13 h
     unfold _daemon_Net__Resolve_k2 at h
     refine J.seq<|J.region<|J.quiet (Y.loadB 0 rfl rfl rfl rfl rfl) rfl<|J.quiet (Y.assign rfl) rfl<|J.done<|J.thenN<|J.ret<|J.inR<|J.thenR<|J.unmarkAll (i:=1) (Ds:=(b13)) (.inl rfl) rfl ?_
     obtain rfl:=Option.some.inj h
     exact J.retG1 (()) rfl rfl (RV.tmp rfl) (SubM.nil) LentAll.nil
   ·have h:=ifN hp8 h
    refine J.seq<|J.region<|J.quiet (Y.eql rfl rfl) rfl<|J.quiet (Y.assign rfl) rfl<|J.done<|J.thenN ?_
    refine J.condD (by exact rfl) (fun hp38=> ?_) (fun hp38=> ?_)
    ·have h:=ifP hp38 h
     refine J.seq<|J.region<|J.quiet (Y.move rfl) rfl<|J.quiet (Y.assign rfl) rfl<|J.done<|J.thenN<|J.ret<|J.inR<|J.thenR<|J.unmarkAll (i:=1) (Ds:=([]:List Nat)) (.inl rfl) rfl ?_
     obtain rfl:=Option.some.inj h
     exact J.retG1 (()) rfl rfl (RV.tmp rfl) (SubM.nil) LentAll.nil
    ·have h:=ifN hp38 h
     refine J.skip<|J.inN<|J.thenN<|J.seq<|J.region<|J.quiet (Y.move rfl) rfl<|J.quiet (Y.assign rfl) rfl<|J.done<|J.thenN<|J.ret<|J.unmarkAll (i:=1) (Ds:=([]:List Nat)) (.inl rfl) rfl ?_
     obtain rfl:=Option.some.inj h
     exact J.retG1 (()) rfl rfl (RV.tmp rfl) (SubM.nil) LentAll.nil
end Go.Proofs.YtfbkplemadmbfaaGreatDoor
end
section
namespace Go.Proofs.YtfbkplemadmbfaaGreatDoor
open Go.Sx
def m_reset_Fit (fuel:Nat) (p0:List (Int)×(List (List (Int×Int)))):Option (Bool):=
 Option.bind (m_graph_Connected fuel ((p0.1,p0.2))) fun r2=>(some (r2))
theorem body11:HasBody Tryz.prog 11:=Tryz.call11
theorem t_reset_Fit (fuel:Nat) {p0:List (Int)×(List (List (Int×Int)))} (v0:Value)  (v1:Value)  (z2:List (Value×List (Int×Int))) (r:Bool) (h:m_reset_Fit fuel p0=some r):
  Meets Tryz.prog 11 #[Value.agg #[v0,v1]] [Sl RI64 v0 p0.1,S2 RI64I64p v1 z2 p0.2] (fun x:Unit=>Value.bool (r)) (fun x l=>l) (fun _ l=>l):=by
 refine Meets.of (vs:=[Value.agg #[v0,v1]]) Tryz.func11 rfl Tryz.ntmps11 rfl fun c=> ?_
 unfold m_reset_Fit at h
 refine J.seq<|J.region<|J.loud (Loud.box (cs:=[v0,v1]) rfl rfl) rfl fun b1=>J.quiet (Y.assign rfl) rfl<|J.done<|J.thenN<|J.seq<|J.region<|J.quiet (Y.loadBAll 0 rfl rfl rfl rfl) rfl ?_
 have h:=bnd h;obtain⟨r2,hr3,h⟩:=h
 refine J.loud (Loud.callL body40 (t_graph_Connected fuel v0 v1 z2 r2 hr3) rfl (LentAll.cons (Lent.fact 0 rfl) (LentAll.cons (Lent.fact 1 rfl) .nil)) (fun _ _=>rfl)) rfl fun x4=>J.quiet (Y.assign rfl) rfl<|J.done<|J.thenN<|J.ret ?_
 obtain rfl:=Option.some.inj h
 exact J.retG1 (()) rfl rfl (RV.tmp rfl) (SubM.nil) LentAll.nil
end Go.Proofs.YtfbkplemadmbfaaGreatDoor
end
section
namespace Go.Proofs.YtfbkplemadmbfaaGreatDoor
open Go.Sx
def reset_configuration_k1  (a3:Bool):Option (Bool):=
 some (a3)
def m_reset_configuration (fuel:Nat) (p0:List (Int)×(List (List (Int×Int)))) (p1:List (List (Int))):Option (Bool):=
 Option.bind (m_reset_Fit fuel ((p0.1,p0.2))) fun r5=>(if r5=true then(Option.bind (m_bfs_Configuration fuel ((p0.1,p0.2)) p1 ([(List.length p0.1:Int),(-1:Int),(1:Int),(1:Int),(3:Int),(1:Int)])) fun r10=>(reset_configuration_k1  (r10)))else(reset_configuration_k1  (false)))
theorem body42:HasBody Tryz.prog 42:=Tryz.call42
theorem t_reset_configuration (fuel:Nat) {p0:List (Int)×(List (List (Int×Int)))} {p1:List (List (Int))} (v0:Value)  (v1:Value)  (z2:List (Value×List (Int×Int)))  (v3:Value)  (z4:List (Value×List (Int))) (r:Bool) (h:m_reset_configuration fuel p0 p1=some r):
  Meets Tryz.prog 42 #[Value.agg #[v0,v1],v3] [Sl RI64 v0 p0.1,S2 RI64I64p v1 z2 p0.2,S2 RI64 v3 z4 p1] (fun x:Unit=>Value.bool (r)) (fun x l=>l) (fun _ l=>l):=by
 refine Meets.of (vs:=[Value.agg #[v0,v1],v3]) Tryz.func42 rfl Tryz.ntmps42 rfl fun c=> ?_
 unfold m_reset_configuration at h
 refine J.seq<|J.region<|J.loud (Loud.box (cs:=[v0,v1]) rfl rfl) rfl fun b1=>J.quiet (Y.assign rfl) rfl<|J.done<|J.thenN<|J.seq<|J.midI (A:=Bool) (B:=Unit) (fun a3=>reset_configuration_k1  a3=some r) (fun a3 b4=>[(4,Value.bool (a3))]) (fun a3 b4=>[]) (fun a3 b4=>[Sl RI64 v0 p0.1,S2 RI64I64p v1 z2 p0.2,S2 RI64 v3 z4 p1]) ?_ ?_
 ·refine J.region<|J.quiet (Y.loadBAll 0 rfl rfl rfl rfl) rfl ?_
  have h:=bnd h;obtain⟨r5,hr6,h⟩:=h
  refine J.loud (Loud.callL body11 (t_reset_Fit fuel v0 v1 z2 r5 hr6) rfl (LentAll.cons (Lent.fact 0 rfl) (LentAll.cons (Lent.fact 1 rfl) .nil)) (fun _ _=>rfl)) rfl fun x7=>J.quiet (Y.move rfl) rfl ?_
  refine J.guard (by exact rfl) (by exact rfl) (fun hp8=> ?_) (fun hp8=> ?_)
  ·have h:=ifP hp8 h
   refine J.guardY rfl (Y.loadBAll 0 rfl rfl rfl rfl) rfl<|J.guardY rfl (Y.move rfl) rfl<|J.guardY rfl (Y.fieldB rfl rfl rfl rfl rfl) rfl<|J.guardY rfl (Y.loadB 0 rfl rfl rfl rfl rfl) rfl<|J.guardY rfl (Y.lenS rfl (Lent.fact 0 rfl) rfl) rfl<|J.loudG rfl (Loud.buildS (e:=EI64) ([(List.length p0.1:Int),(-1:Int),(1:Int),(1:Int),(3:Int),(1:Int)]) [(0,Value.int .i64 (List.length p0.1:Int)),(1,Value.int .i64 (-1:Int)),(2,Value.int .i64 (1:Int)),(3,Value.int .i64 (1:Int)),(4,Value.int .i64 (3:Int)),(5,Value.int .i64 (1:Int))] rfl rfl rfl rfl (fill_6_1 (Value.int .i64 (List.length p0.1:Int)) (Value.int .i64 (-1:Int)) (Value.int .i64 (1:Int)) (Value.int .i64 (1:Int)) (Value.int .i64 (3:Int)) (Value.int .i64 (1:Int)) rfl rfl rfl rfl rfl rfl) rfl rfl rfl) rfl fun u9=> ?_
   have h:=bnd h;obtain⟨r10,hr11,h⟩:=h
   refine J.loudG rfl (Loud.callL body82 (t_bfs_Configuration fuel v0 v1 z2 v3 z4 u9 r10 hr11) rfl (LentAll.cons (Lent.fact 0 rfl) (LentAll.cons (Lent.fact 1 rfl) (LentAll.cons (Lent.fact 2 rfl) (LentAll.cons (Lent.ar (Lent.res 0 rfl) FI64) .nil)))) (fun _ _=>rfl)) rfl fun x12=>J.quiet (Y.pickT rfl rfl) rfl<|J.quiet (Y.assign rfl) rfl<|J.done<|J.thenN ?_
   exact J.meetI (r10) (()) h SF (SubM.nil) (LentAll.refl _ _)
  ·have h:=ifBN hp8 h
   refine J.guardN rfl rfl rfl<|J.guardN rfl rfl rfl<|J.guardN rfl rfl rfl<|J.guardN rfl rfl rfl<|J.guardN rfl rfl rfl<|J.guardN rfl rfl rfl<|J.guardN rfl rfl rfl<|J.quiet (Y.pickF rfl rfl) rfl<|J.quiet (Y.assign rfl) rfl<|J.done<|J.thenN ?_
   exact J.meetI (false) (()) h SF (SubM.nil) (LentAll.refl _ _)
 ·clear h
  intro a3 b4 h
  unfold reset_configuration_k1 at h
  refine J.ret ?_
  obtain rfl:=Option.some.inj h
  exact J.retG1 (()) rfl rfl (RV.tmp rfl) (SubM.refl _) LentAll.nil
end Go.Proofs.YtfbkplemadmbfaaGreatDoor
end
section
namespace Go.Proofs.YtfbkplemadmbfaaGreatDoor
open Go.Sx
def reset_Legit_k2  (a6:Unit):Option (Bool):=
 some (true)
def reset_Legit_k3 (a10:Int) (ag9:(Int)->Option (Bool)) (a16:Bool):Option (Bool):=
 if a16=true then(some (false))else(ag9 (wI .i64 (a10+(1:Int))))
def reset_Legit_s1 (p1:List (List (Int))) (a10:Int) (ag9:(Int)->Option (Bool)):Option (Bool):=
 if a10<(List.length p1:Int)then(ck (0<=a10∧a10<(List.length p1:Int)) (ck (0<=(2:Int)∧(2:Int)<(List.length (at' p1 a10):Int)) (if(at' (at' p1 a10) (2:Int))≠(0:Int)then(reset_Legit_k3 a10 ag9 (true))else(ck (0<=(5:Int)∧(5:Int)<(List.length (at' p1 a10):Int)) (if(at' (at' p1 a10) (5:Int))≠(0:Int)then(reset_Legit_k3 a10 ag9 (true))else(ck (0<=(3:Int)∧(3:Int)<(List.length (at' p1 a10):Int)) (ck (0<=(0:Int)∧(0:Int)<(List.length p1:Int)) (ck (0<=(3:Int)∧(3:Int)<(List.length (at' p1 (0:Int)):Int)) (reset_Legit_k3 a10 ag9 (decide ((at' (at' p1 a10) (3:Int))≠(at' (at' p1 (0:Int)) (3:Int)))))))))))))else(reset_Legit_k2  (()))
def reset_Legit_k1 (fuel:Nat) (p1:List (List (Int))) (a3:Bool):Option (Bool):=
 if a3=true then(some (false))else(iter (reset_Legit_s1 p1) fuel (0:Int))
def reset_Legit_k4 (fuel:Nat) (p0:List (Int)×(List (List (Int×Int)))) (p1:List (List (Int))) (a33:List (List (Int))):Option (Bool):=
 Option.bind (m_bfs_Legit fuel ((p0.1,p0.2)) a33) fun r35=>(reset_Legit_k1 fuel p1 ((!r35)))
def reset_Legit_k5 (fuel:Nat) (p0:List (Int)×(List (List (Int×Int)))) (p1:List (List (Int))) (a42:List (List (Int))):Option (Bool):=
 reset_Legit_k4 fuel p0 p1 (a42)
def reset_Legit_s2 (fuel:Nat) (p0:List (Int)×(List (List (Int×Int)))) (p1:List (List (Int))) (a48:Int×List (List (Int))) (ag47:(Int×List (List (Int)))->Option (Bool)):Option (Bool):=
 if a48.1<(List.length p1:Int)then(ck (0<=a48.1∧a48.1<(List.length p1:Int)) (ck (0<=(0:Int)∧(0:Int)<=(2:Int)∧(2:Int)<=(2:Int)∧(2:Int)<=(List.length (at' p1 a48.1):Int)) (ck (0<=a48.1∧a48.1<(List.length a48.2:Int)) (ag47 ((wI .i64 (a48.1+(1:Int))),(List.set a48.2 (Int.toNat a48.1) (List.drop (Int.toNat (0:Int)) (List.take (Int.toNat (2:Int)) (at' p1 a48.1)))))))))else(reset_Legit_k5 fuel p0 p1 (a48.2))
def m_reset_Legit (fuel:Nat) (p0:List (Int)×(List (List (Int×Int)))) (p1:List (List (Int))):Option (Bool):=
 Option.bind (m_reset_configuration fuel ((p0.1,p0.2)) p1) fun r26=>(if(!r26)=true then(reset_Legit_k1 fuel p1 (true))else(ck (0<=(List.length p1:Int)∧(List.length p1:Int)<=1099511627) (iter (reset_Legit_s2 fuel p0 p1) fuel ((0:Int),(List.replicate (Int.toNat (List.length p1:Int)) ([]:List Int))))))
theorem body13:HasBody Tryz.prog 13:=Tryz.call13
theorem t_reset_Legit (fuel:Nat) {p0:List (Int)×(List (List (Int×Int)))} {p1:List (List (Int))} (v0:Value)  (v1:Value)  (z2:List (Value×List (Int×Int)))  (v3:Value)  (z4:List (Value×List (Int))) (r:Bool) (h:m_reset_Legit fuel p0 p1=some r):
  Meets Tryz.prog 13 #[Value.agg #[v0,v1],v3] [Sl RI64 v0 p0.1,S2 RI64I64p v1 z2 p0.2,S2 RI64 v3 z4 p1] (fun x:Unit=>Value.bool (r)) (fun x l=>l) (fun _ l=>l):=by
 refine Meets.of (vs:=[Value.agg #[v0,v1],v3]) Tryz.func13 rfl Tryz.ntmps13 rfl fun c=> ?_
 unfold m_reset_Legit at h
 refine J.seq<|J.region<|J.loud (Loud.box (cs:=[v0,v1]) rfl rfl) rfl fun b1=>J.quiet (Y.assign rfl) rfl<|J.done<|J.thenN<|J.seq<|J.seq<|J.midI (A:=Bool) (B:=Unit) (fun a3=>reset_Legit_k1 fuel p1 a3=some r) (fun a3 b4=>[(1,v3),(17,Value.bool (a3))]) (fun a3 b4=>[]) (fun a3 b4=>[Sl RI64 v0 p0.1,S2 RI64I64p v1 z2 p0.2,S2 RI64 v3 z4 p1]) ?_ ?_
 ·refine JR.start [0,0,3,7,15,31,31,95,255,511,1023] 8 mixedOrders (by decide +kernel) ?_
  refine JR.open (by exact rfl) ?_
  refine JR.qt rfl (SubM.refl _) (SubL.nil) (Y.loadBAll 0 rfl rfl rfl rfl) HistOk.z<|JR.qt rfl (SubM.nil) (SubL.nil) (Y.move rfl) HistOk.z ?_
  have h:=bnd h;obtain⟨r26,hr27,h⟩:=h
  refine JR.loud rfl rfl rfl (Loud.callL body42 (t_reset_configuration fuel v0 v1 z2 v3 z4 r26 hr27) rfl (LentAll.cons (Lent.fact 0 rfl) (LentAll.cons (Lent.fact 1 rfl) (LentAll.cons (Lent.fact 2 rfl) .nil))) (fun _ _=>rfl)) rfl (fun x28=>(BsOk.b rfl (BsOk.b rfl BsOk.z))) fun x28=>JR.qt rfl (SubM.nil) (SubL.nil) (Y.not rfl) (HistOk.b rfl HistOk.z)<|JR.qt rfl (SubM.nil) (SubL.nil) (Y.move rfl) (HistOk.b rfl HistOk.z) ?_
  refine JR.guard (by exact rfl) (by exact rfl) (by exact rfl) (fun hp29=> ?_) (fun hp29=> ?_)
  ·have h:=ifP hp29 h
   refine JR.guardN rfl rfl rfl rfl<|JR.guardN rfl rfl rfl rfl<|JR.guardN rfl rfl rfl rfl<|JR.tailD 8 rfl rfl<|J.guardN rfl rfl rfl<|J.guardN rfl rfl rfl<|J.quiet (Y.pickT rfl rfl) rfl<|J.done<|J.thenN ?_
   exact J.meetI (true) (()) h SF (SubM.nil) (LentAll.refl _ _)
  ·have h:=ifBN hp29 h
   refine JR.qtG rfl (SubM.refl _) (SubL.nil) (Y.loadBAll 0 rfl rfl rfl rfl) (HistOk.b rfl HistOk.z)<|JR.qtG rfl (SubM.nil) (SubL.nil) (Y.move rfl) (HistOk.b rfl HistOk.z)<|JR.inlCG (A:=List (List (Int))) (B:=Value×List Value) (vs:=[v3]) (fun a33=>reset_Legit_k4 fuel p0 p1 a33=some r) (fun a33 b34=>b34.1) (fun a33 b34=>[Ar Enc.raw b34.1 b34.2,Blk b1 [v0,v1] 25]) (fun a33 b34=>[Rlf RI64 b34.2 a33,Sl RI64 v0 p0.1,S2 RI64I64p v1 z2 p0.2,S2 RI64 v3 z4 p1]) rfl rfl rfl rfl (Enter.fn (show HasBody Tryz.prog 44 from Tryz.call44) rfl) Tryz.func44 rfl Tryz.ntmps44 rfl rfl (fun _ _=>(BsOk.b rfl (BsOk.h (SubM.cons 1 rfl (SubM.nil)) (SubL.nil) (BsOk.b rfl (BsOk.b rfl (BsOk.b rfl (BsOk.b rfl BsOk.z))))))) ?_ ?_
   ·refine J.seq<|J.region<|J.quiet (Y.assign rfl) rfl<|J.done<|J.thenN<|J.seq<|J.region<|J.quiet (Y.move rfl) rfl<|J.quiet (Y.lenN rfl (Lent.fact 2 rfl) rfl) rfl ?_
    have h:=ck_some h;obtain⟨hc38,h⟩:=h
    refine J.addRl RI64 (Int.toNat (List.length p1:Int))<|J.loud (Loud.makeS (e:=Enc.raw) (Value.slice none 0 0) rfl rfl rfl rfl hc38 rfl rfl rfl) rfl fun u39=>J.quiet (Y.assign rfl) rfl<|J.done<|J.thenN<|J.seq<|J.midI (A:=List (List (Int))) (B:=List Value) (fun a42=>reset_Legit_k5 fuel p0 p1 a42=some r) (fun a42 b43=>[(3,u39)]) (fun a42 b43=>[Ar Enc.raw u39 b43,Blk b1 [v0,v1] 25]) (fun a42 b43=>[Rlf RI64 b43 a42,Sl RI64 v0 p0.1,S2 RI64I64p v1 z2 p0.2,S2 RI64 v3 z4 p1]) ?_ ?_
    ·refine J.seq<|J.region<|J.quiet (Y.move rfl) rfl<|J.quiet (Y.lenN rfl (Lent.fact 3 rfl) rfl) rfl<|J.quiet (Y.move rfl) rfl<|J.done<|J.thenN<|J.block<|J.loopI (A:=Int×List (List (Int))) (B:=List Value) (reset_Legit_s2 fuel p0 p1) (fun a48 b49=>[(3,u39),(9,v3),(10,Value.int .i64 (List.length p1:Int)),(11,Value.int .i64 (a48.1))]) (fun a48 b49=>[Ar Enc.raw u39 b49,Blk b1 [v0,v1] 25]) (fun a48 b49=>[Rlf RI64 b49 a48.2,Sl RI64 v0 p0.1,S2 RI64I64p v1 z2 p0.2,S2 RI64 v3 z4 p1]) ((0:Int),(List.replicate (Int.toNat (List.length p1:Int)) ([]:List Int))) (List.replicate (Int.toNat (List.length p1:Int)) (Value.slice none 0 0)) h SF (SubM.refl _) (LentAll.refl _ _) ?_
     clear h
     intro k50 a48 b49 h
     unfold reset_Legit_s2 at h
     refine J.seq<|J.region<|J.quiet (Y.lss rfl rfl) rfl<|J.done<|J.thenN<|J.seq ?_
     refine J.condD (by exact rfl) (fun hp51=> ?_) (fun hp51=> ?_)
     ·have h:=ifP hp51 h
      refine J.skip<|J.thenN<|J.seq<|J.block<|J.seq<|J.region<|J.quiet (Y.move rfl) rfl ?_
      have h:=ck_some h;obtain⟨hc52,h⟩:=h
      refine J.quiet (Y.indexN rfl rfl (Lent.fact 3 rfl) rfl rfl hc52) rfl<|J.quiet (Y.loadRow rfl (Lent.fact 3 rfl) rfl rfl hc52) rfl<|J.quiet (Y.assign rfl) rfl<|J.quiet (Y.assign rfl) rfl<|J.done<|J.thenN<|J.region<|J.quiet (Y.move rfl) rfl<|J.quiet (Y.move rfl) rfl<|J.quiet (Y.move rfl) rfl ?_
      have h:=ck_some h;obtain⟨hc53,h⟩:=h
      refine J.quiet (Y.slice3R rfl rfl rfl rfl (Lent.el (Lent.fact 3 rfl) hc52.1 hc52.2) rfl rfl hc53) rfl ?_
      have h:=ck_some h;obtain⟨hc54,h⟩:=h
      refine J.quiet (Y.indexN rfl rfl (Lent.rowsL (i:=0) (j:=0) rfl rfl) rfl rfl hc54) rfl<|J.know (Know.one ((Lent.part3 (Lent.el (Lent.fact 3 rfl) hc52.1 hc52.2) rfl hc53))) fun ho55=>J.storeRl 0 0 hc54 rfl rfl rfl rfl ho55 rfl<|J.rlset (k:=Int.toNat a48.1) 0 (vs:=b49) rfl (Lent.part3 (Lent.el (Lent.fact 3 rfl) hc52.1 hc52.2) rfl hc53)<|J.done<|J.inN<|J.thenN<|J.region<|J.quiet (Y.addW rfl rfl) rfl<|J.quiet (Y.move rfl) rfl<|J.done<|J.thenN ?_
      exact J.againI ((wI .i64 (a48.1+(1:Int))),(List.set a48.2 (Int.toNat a48.1) (List.drop (Int.toNat (0:Int)) (List.take (Int.toNat (2:Int)) (at' p1 a48.1))))) (List.set b49 (Int.toNat a48.1) (sl3 ((at' z4 a48.1).1) (Int.toNat (0:Int)) (Int.toNat (2:Int)) (Int.toNat (2:Int)) 1)) h SF (SubM.refl _) (LentAll.refl _ _)
     ·have h:=ifN hp51 h
      refine J.exit<|J.thenX<|J.thenX<|J.inX<|J.thenN ?_
      exact J.meetI (a48.2) (b49) h SF (SubM.refl _) (LentAll.refl _ _)
    ·clear h
     intro a42 b43 h
     unfold reset_Legit_k5 at h
     refine J.seq<|J.region<|J.quiet (Y.move rfl) rfl<|J.quiet (Y.assign rfl) rfl<|J.done<|J.thenN<|J.ret ?_
     exact J.retM (a42) (u39,b43) h (.inl rfl) (Res.r1 rfl (RV.tmp rfl)) rfl (SubM.refl _) (LentAll.refl _ _)
   ·clear h
    intro a33 b34 h
    unfold reset_Legit_k4 at h
    refine JR.tailD 8 rfl rfl ?_
    have h:=bnd h;obtain⟨r35,hr36,h⟩:=h
    refine J.loudG rfl (Loud.callL body43 (t_bfs_Legit fuel v0 v1 z2 b34.1 (List.zip b34.2 a33) r35 hr36) rfl (LentAll.cons (Lent.fact 1 rfl) (LentAll.cons (Lent.fact 2 rfl) (LentAll.cons (Lent.rowsL (i:=0) (j:=0) rfl rfl) .nil))) (fun _ _=>rfl)) rfl fun x37=>J.guardY rfl (Y.not rfl) rfl<|J.quiet (Y.pickF rfl rfl) rfl<|J.done<|J.thenN ?_
    exact J.meetI ((!r35)) (()) h SF (SubM.nil) (LentAll.cons (Lent.fact 1 rfl) (LentAll.cons (Lent.fact 2 rfl) (LentAll.cons (Lent.fact 3 rfl) .nil)))
 ·clear h
  intro a3 b4 h
  unfold reset_Legit_k1 at h
  refine J.cond (by exact rfl) (fun hp5=> ?_) (fun hp5=> ?_)
  ·have h:=ifP hp5 h
   refine J.seq<|J.region<|J.quiet (Y.assign rfl) rfl<|J.done<|J.thenN<|J.ret<|J.thenR ?_
   obtain rfl:=Option.some.inj h
   exact J.retG1 (()) rfl rfl (RV.tmp rfl) (SubM.refl _) LentAll.nil
  ·have h:=ifBN hp5 h
   refine J.skip<|J.thenN<|J.seq<|J.midI (A:=Unit) (B:=Unit) (fun a6=>reset_Legit_k2  a6=some r) (fun a6 b7=>[]) (fun a6 b7=>[]) (fun a6 b7=>[Sl RI64 v0 p0.1,S2 RI64I64p v1 z2 p0.2,S2 RI64 v3 z4 p1]) ?_ ?_
   ·refine J.seq<|J.region<|J.quiet (Y.move rfl) rfl<|J.quiet (Y.lenN rfl (Lent.fact 2 rfl) rfl) rfl<|J.quiet (Y.move rfl) rfl<|J.done<|J.thenN<|J.block<|J.loopI (A:=Int) (B:=Unit) (reset_Legit_s1 p1) (fun a10 b11=>[(1,v3),(18,v3),(19,Value.int .i64 (List.length p1:Int)),(20,Value.int .i64 (a10))]) (fun a10 b11=>[]) (fun a10 b11=>[Sl RI64 v0 p0.1,S2 RI64I64p v1 z2 p0.2,S2 RI64 v3 z4 p1]) (0:Int) (()) h SF (SubM.refl _) (LentAll.refl _ _) ?_
    clear h
    intro k12 a10 b11 h
    unfold reset_Legit_s1 at h
    refine J.seq<|J.region<|J.quiet (Y.lss rfl rfl) rfl<|J.done<|J.thenN<|J.seq ?_
    refine J.condD (by exact rfl) (fun hp13=> ?_) (fun hp13=> ?_)
    ·have h:=ifP hp13 h
     refine J.skip<|J.thenN<|J.seq<|J.block<|J.seq<|J.region ?_
     have h:=ck_some h;obtain⟨hc14,h⟩:=h
     refine J.quiet (Y.indexN rfl rfl (Lent.fact 2 rfl) rfl rfl hc14) rfl<|J.quiet (Y.loadRow rfl (Lent.fact 2 rfl) rfl rfl hc14) rfl<|J.quiet (Y.assign rfl) rfl<|J.done<|J.thenN<|J.seq<|J.midI (A:=Bool) (B:=Unit) (fun a16=>reset_Legit_k3 a10 (iter (reset_Legit_s1 p1) k12) a16=some r) (fun a16 b17=>[(1,v3),(18,v3),(19,Value.int .i64 (List.length p1:Int)),(20,Value.int .i64 (a10)),(44,Value.bool (a16))]) (fun a16 b17=>[]) (fun a16 b17=>[Sl RI64 v0 p0.1,S2 RI64I64p v1 z2 p0.2,S2 RI64 v3 z4 p1]) ?_ ?_
     ·refine JR.start [0,1,3,7,15,31,63,127,255,511,1023,2047,4095,8191,2047,18431,51199,116735,247807,524287,1048575] 19 mixedOrders (by decide +kernel) ?_
      refine JR.open (by exact rfl) ?_
      refine JR.qt rfl (SubM.refl _) (SubL.nil) (Y.move rfl) HistOk.z ?_
      have h:=ck_some h;obtain⟨hc19,h⟩:=h
      refine JR.qt rfl (SubM.refl _) (SubL.cons (List.mem_of_getElem? (i:=2) rfl) (SubL.nil)) (Y.indexS rfl rfl (Lent.el (Lent.fact 0 rfl) hc14.1 hc14.2) rfl rfl hc19) HistOk.z<|JR.qt rfl (SubM.refl _) (SubL.cons (List.mem_of_getElem? (i:=2) rfl) (SubL.nil)) (Y.loadS0 rfl (Lent.el (Lent.fact 0 rfl) hc14.1 hc14.2) rfl rfl rfl RI64c0 hc19) HistOk.z<|JR.qt rfl (SubM.refl _) (SubL.nil) (Y.neq rfl rfl) HistOk.z<|JR.qt rfl (SubM.refl _) (SubL.nil) (Y.move rfl) HistOk.z ?_
      refine JR.guardD (by exact rfl) (by exact rfl) (by exact rfl) (fun hp20=> ?_) (fun hp20=> ?_)
      ·have h:=ifP hp20 h
       refine JR.guardN rfl rfl rfl rfl<|JR.guardN rfl rfl rfl rfl<|JR.guardN rfl rfl rfl rfl<|JR.guardN rfl rfl rfl rfl<|JR.qt rfl (SubM.refl _) (SubL.nil) (Y.pickT rfl rfl) HistOk.z<|JR.qt rfl (SubM.refl _) (SubL.nil) (Y.move rfl) HistOk.z<|JR.guardN rfl rfl rfl rfl<|JR.guardN rfl rfl rfl rfl<|JR.guardN rfl rfl rfl rfl<|JR.guardN rfl rfl rfl rfl<|JR.guardN rfl rfl rfl rfl<|JR.guardN rfl rfl rfl rfl<|JR.guardN rfl rfl rfl rfl<|JR.guardN rfl rfl rfl rfl<|JR.tailD 19 rfl rfl<|J.guardN rfl rfl rfl<|J.quiet (Y.pickT rfl rfl) rfl<|J.done<|J.thenN ?_
       exact J.meetI (true) (()) h SF (SubM.refl _) (LentAll.refl _ _)
      ·have h:=ifN hp20 h
       refine JR.qtG rfl (SubM.refl _) (SubL.nil) (Y.move rfl) HistOk.z ?_
       have h:=ck_some h;obtain⟨hc21,h⟩:=h
       refine JR.qtG rfl (SubM.refl _) (SubL.cons (List.mem_of_getElem? (i:=2) rfl) (SubL.nil)) (Y.indexS rfl rfl (Lent.el (Lent.fact 0 rfl) hc14.1 hc14.2) rfl rfl hc21) HistOk.z<|JR.qtG rfl (SubM.refl _) (SubL.cons (List.mem_of_getElem? (i:=2) rfl) (SubL.nil)) (Y.loadS0 rfl (Lent.el (Lent.fact 0 rfl) hc14.1 hc14.2) rfl rfl rfl RI64c0 hc21) HistOk.z<|JR.qtG rfl (SubM.refl _) (SubL.nil) (Y.neq rfl rfl) HistOk.z<|JR.qt rfl (SubM.refl _) (SubL.nil) (Y.pickF rfl rfl) HistOk.z<|JR.qt rfl (SubM.refl _) (SubL.nil) (Y.move rfl) HistOk.z ?_
       refine JR.guardD (by exact rfl) (by exact rfl) (by exact rfl) (fun hp22=> ?_) (fun hp22=> ?_)
       ·have h:=ifP hp22 h
        refine JR.guardN rfl rfl rfl rfl<|JR.guardN rfl rfl rfl rfl<|JR.guardN rfl rfl rfl rfl<|JR.guardN rfl rfl rfl rfl<|JR.guardN rfl rfl rfl rfl<|JR.guardN rfl rfl rfl rfl<|JR.guardN rfl rfl rfl rfl<|JR.guardN rfl rfl rfl rfl<|JR.tailD 19 rfl rfl<|J.guardN rfl rfl rfl<|J.quiet (Y.pickT rfl rfl) rfl<|J.done<|J.thenN ?_
        exact J.meetI (true) (()) h SF (SubM.refl _) (LentAll.refl _ _)
       ·have h:=ifN hp22 h
        refine JR.qtG rfl (SubM.refl _) (SubL.nil) (Y.move rfl) HistOk.z ?_
        have h:=ck_some h;obtain⟨hc23,h⟩:=h
        refine JR.qtG rfl (SubM.refl _) (SubL.cons (List.mem_of_getElem? (i:=2) rfl) (SubL.nil)) (Y.indexS rfl rfl (Lent.el (Lent.fact 0 rfl) hc14.1 hc14.2) rfl rfl hc23) HistOk.z<|JR.qtG rfl (SubM.refl _) (SubL.cons (List.mem_of_getElem? (i:=2) rfl) (SubL.nil)) (Y.loadS0 rfl (Lent.el (Lent.fact 0 rfl) hc14.1 hc14.2) rfl rfl rfl RI64c0 hc23) HistOk.z<|JR.qtG rfl (SubM.refl _) (SubL.nil) (Y.move rfl) HistOk.z ?_
        have h:=ck_some h;obtain⟨hc24,h⟩:=h
        refine JR.qtG rfl (SubM.refl _) (SubL.cons (List.mem_of_getElem? (i:=2) rfl) (SubL.nil)) (Y.indexN rfl rfl (Lent.fact 0 rfl) rfl rfl hc24) HistOk.z<|JR.qtG rfl (SubM.refl _) (SubL.cons (List.mem_of_getElem? (i:=2) rfl) (SubL.nil)) (Y.loadRow rfl (Lent.fact 0 rfl) rfl rfl hc24) HistOk.z ?_
        have h:=ck_some h;obtain⟨hc25,h⟩:=h
        refine JR.qtG rfl (SubM.refl _) (SubL.cons (List.mem_of_getElem? (i:=2) rfl) (SubL.nil)) (Y.indexS rfl rfl (Lent.el (Lent.fact 0 rfl) hc24.1 hc24.2) rfl rfl hc25) HistOk.z<|JR.qtG rfl (SubM.refl _) (SubL.cons (List.mem_of_getElem? (i:=2) rfl) (SubL.nil)) (Y.loadS0 rfl (Lent.el (Lent.fact 0 rfl) hc24.1 hc24.2) rfl rfl rfl RI64c0 hc25) HistOk.z<|JR.tailD 19 rfl rfl<|J.guardY rfl (Y.neq rfl rfl) rfl<|J.quiet (Y.pickF rfl rfl) rfl<|J.done<|J.thenN ?_
        exact J.meetI (decide ((at' (at' p1 a10) (3:Int))≠(at' (at' p1 (0:Int)) (3:Int)))) (()) h SF (SubM.refl _) (LentAll.refl _ _)
     ·clear h
      intro a16 b17 h
      unfold reset_Legit_k3 at h
      refine J.cond (by exact rfl) (fun hp18=> ?_) (fun hp18=> ?_)
      ·have h:=ifP hp18 h
       refine J.seq<|J.region<|J.quiet (Y.assign rfl) rfl<|J.done<|J.thenN<|J.ret<|J.inR<|J.thenR<|J.thenR<|J.inR<|J.thenR ?_
       obtain rfl:=Option.some.inj h
       exact J.retG1 (()) rfl rfl (RV.tmp rfl) (SubM.refl _) LentAll.nil
      ·have h:=ifBN hp18 h
       refine J.skip<|J.inN<|J.thenN<|J.region<|J.quiet (Y.addW rfl rfl) rfl<|J.quiet (Y.move rfl) rfl<|J.done<|J.thenN ?_
       exact J.againI (wI .i64 (a10+(1:Int))) (()) h SF (SubM.refl _) (LentAll.refl _ _)
    ·have h:=ifN hp13 h
     refine J.exit<|J.thenX<|J.thenX<|J.inX<|J.thenN ?_
     exact J.meetI (()) (()) h SF (SubM.refl _) (LentAll.refl _ _)
   ·clear h
    intro a6 b7 h
    unfold reset_Legit_k2 at h
    refine J.seq<|J.region<|J.quiet (Y.assign rfl) rfl<|J.done<|J.thenN<|J.ret ?_
    obtain rfl:=Option.some.inj h
    exact J.retG1 (()) rfl rfl (RV.tmp rfl) (SubM.refl _) LentAll.nil
end Go.Proofs.YtfbkplemadmbfaaGreatDoor
end
section
set_option maxRecDepth 100000
namespace Go.Gx
open Go Go.Sx Go.Proofs Go.Proofs.YtfbkplemadmbfaaGreatDoor
noncomputable section
def hk32 (us:List GV) (H:GH):OR:=a1 us fun x0=>ob (dGraph H x0) fun p0=>ob (m_graph_Valid 1000 p0) fun r=>oBool r H
def hk28 (us:List GV) (H:GH):OR:=a2 us fun x0 x1=>ob (dNet H x0) fun p0=>ob (dSc .i64 x1) fun p1=>ob (m__world_Net__Tree 1000 p0 p1) fun r=>oGraph r H
def hk135 (us:List GV) (H:GH):OR:=a4 us fun x0 x1 x2 x3=>ob (dU32s H x0) fun p0=>ob (dSc .i64 x1) fun p1=>ob (dSc .u32 x2) fun p2=>ob (dSc .u32 x3) fun p3=>ob (m__daemon_Net__Permits 1000 p0 p1 p2 p3) fun r=>oBool r H
def hk105 (us:List GV) (H:GH):OR:=a4 us fun x0 x1 x2 x3=>ob (dU32s H x0) fun p0=>ob (dSc .i64 x1) fun p1=>ob (dSc .u32 x2) fun p2=>ob (dSc .u32 x3) fun p3=>ob (m__daemon_Net__Resolve 1000 p0 p1 p2 p3) fun r=>some (.int .u32 r,H)
def hk13 (us:List GV) (H:GH):OR:=a2 us fun x0 x1=>ob (dGraph H x0) fun p0=>ob (dConf H x1) fun p1=>ob (m_reset_Legit 1000 p0 p1) fun r=>oBool r H
def gext (f:Nat) (us:List GV) (H:GH):Option (GV×GH):=bif Nat.beq f 32 then hk32 us H else bif Nat.beq f 28 then hk28 us H else bif Nat.beq f 135 then hk135 us H else bif Nat.beq f 105 then hk105 us H else bif Nat.beq f 13 then hk13 us H else none
abbrev gl:Nat->Gls:=glb 0 (cellsOf EU8 tab0)
def gp:GP:=⟨tyTab,95,gext,gexn 208⟩
section
variable {T:Nat} {w0:Base (gl T)} {w:World} {ρ:Rho} {H H':GH} {g:GV} {us:List GV} {vs:List Value}
theorem hk32_ok (h:hk32 us H=some (g,H')) (R:Rel w0 ρ H w) (hr:RlL ρ us vs):CallSem Tryz.prog w0 ρ 32 vs w g H':=by
 obtain⟨x0,rfl,h⟩:=a1_some h
 obtain⟨p0,hp0,h⟩:=ob_some.1 h
 obtain⟨r,hm,h⟩:=ob_some.1 h
 obtain⟨V0,rfl,hv0⟩:=hr.one
 obtain⟨w0a,w0b,z0,rfl,f0a,f0b⟩:=dGraph_ok R hv0 hp0
 obtain⟨rfl,rfl⟩:=oBool_some h
 exact hook_plain body32 (t_graph_Valid 1000 (p0:=p0) w0a w0b z0 r hm) R (List.forall_mem_cons.2 ⟨f0a,List.forall_mem_cons.2 ⟨f0b,fun f hf=>absurd hf List.not_mem_nil⟩⟩) fun ρ=> .bool _
theorem hk28_ok (h:hk28 us H=some (g,H')) (R:Rel w0 ρ H w) (hr:RlL ρ us vs):CallSem Tryz.prog w0 ρ 28 vs w g H':=by
 obtain⟨x0,x1,rfl,h⟩:=a2_some h
 obtain⟨p0,hp0,h⟩:=ob_some.1 h
 obtain⟨p1,hp1,h⟩:=ob_some.1 h
 obtain⟨r,hm,h⟩:=ob_some.1 h
 obtain⟨V0,vs,rfl,hv0,hr⟩:=hr.of_cons
 obtain⟨V1,rfl,hv1⟩:=hr.one
 obtain⟨w0a,w0b,w0c,rfl,f0a,f0b,f0c⟩:=dNet_ok R hv0 hp0
 obtain rfl:=dSc_ok hv1 hp1
 obtain⟨h1,h2,h3,rfl,rfl⟩:=oGraph_some h
 exact hook_graph gI_ok gP_ok h1 h2 h3 body28 (t__world_Net__Tree 1000 (p0:=p0) (p1:=p1) w0a w0b w0c r hm) R (List.forall_mem_cons.2 ⟨f0a,List.forall_mem_cons.2 ⟨f0b,List.forall_mem_cons.2 ⟨f0c,fun f hf=>absurd hf List.not_mem_nil⟩⟩⟩)
theorem hk135_ok (h:hk135 us H=some (g,H')) (R:Rel w0 ρ H w) (hr:RlL ρ us vs):CallSem Tryz.prog w0 ρ 135 vs w g H':=by
 obtain⟨x0,x1,x2,x3,rfl,h⟩:=a4_some h
 obtain⟨p0,hp0,h⟩:=ob_some.1 h
 obtain⟨p1,hp1,h⟩:=ob_some.1 h
 obtain⟨p2,hp2,h⟩:=ob_some.1 h
 obtain⟨p3,hp3,h⟩:=ob_some.1 h
 obtain⟨r,hm,h⟩:=ob_some.1 h
 obtain⟨V0,vs,rfl,hv0,hr⟩:=hr.of_cons
 obtain⟨V1,vs,rfl,hv1,hr⟩:=hr.of_cons
 obtain⟨V2,vs,rfl,hv2,hr⟩:=hr.of_cons
 obtain⟨V3,rfl,hv3⟩:=hr.one
 have f0:=dU32s_ok R hv0 hp0
 obtain rfl:=dSc_ok hv1 hp1
 obtain rfl:=dSc_ok hv2 hp2
 obtain rfl:=dSc_ok hv3 hp3
 obtain⟨rfl,rfl⟩:=oBool_some h
 exact hook_plain body135 (t__daemon_Net__Permits 1000 (p0:=p0) (p1:=p1) (p2:=p2) (p3:=p3) V0 r hm) R (List.forall_mem_cons.2 ⟨f0,List.forall_mem_cons.2 ⟨R.glb,fun f hf=>absurd hf List.not_mem_nil⟩⟩) fun ρ=> .bool _
theorem hk105_ok (h:hk105 us H=some (g,H')) (R:Rel w0 ρ H w) (hr:RlL ρ us vs):CallSem Tryz.prog w0 ρ 105 vs w g H':=by
 obtain⟨x0,x1,x2,x3,rfl,h⟩:=a4_some h
 obtain⟨p0,hp0,h⟩:=ob_some.1 h
 obtain⟨p1,hp1,h⟩:=ob_some.1 h
 obtain⟨p2,hp2,h⟩:=ob_some.1 h
 obtain⟨p3,hp3,h⟩:=ob_some.1 h
 obtain⟨r,hm,h⟩:=ob_some.1 h
 obtain⟨V0,vs,rfl,hv0,hr⟩:=hr.of_cons
 obtain⟨V1,vs,rfl,hv1,hr⟩:=hr.of_cons
 obtain⟨V2,vs,rfl,hv2,hr⟩:=hr.of_cons
 obtain⟨V3,rfl,hv3⟩:=hr.one
 have f0:=dU32s_ok R hv0 hp0
 obtain rfl:=dSc_ok hv1 hp1
 obtain rfl:=dSc_ok hv2 hp2
 obtain rfl:=dSc_ok hv3 hp3
 cases h
 exact hook_plain body105 (t__daemon_Net__Resolve 1000 (p0:=p0) (p1:=p1) (p2:=p2) (p3:=p3) V0 r hm) R (List.forall_mem_cons.2 ⟨f0,List.forall_mem_cons.2 ⟨R.glb,fun f hf=>absurd hf List.not_mem_nil⟩⟩) fun ρ=> .int _ _
theorem hk13_ok (h:hk13 us H=some (g,H')) (R:Rel w0 ρ H w) (hr:RlL ρ us vs):CallSem Tryz.prog w0 ρ 13 vs w g H':=by
 obtain⟨x0,x1,rfl,h⟩:=a2_some h
 obtain⟨p0,hp0,h⟩:=ob_some.1 h
 obtain⟨p1,hp1,h⟩:=ob_some.1 h
 obtain⟨r,hm,h⟩:=ob_some.1 h
 obtain⟨V0,vs,rfl,hv0,hr⟩:=hr.of_cons
 obtain⟨V1,rfl,hv1⟩:=hr.one
 obtain⟨w0a,w0b,z0,rfl,f0a,f0b⟩:=dGraph_ok R hv0 hp0
 obtain⟨z1,f1⟩:=dConf_ok R hv1 hp1
 obtain⟨rfl,rfl⟩:=oBool_some h
 exact hook_plain body13 (t_reset_Legit 1000 (p0:=p0) (p1:=p1) w0a w0b z0 V1 z1 r hm) R (List.forall_mem_cons.2 ⟨f0a,List.forall_mem_cons.2 ⟨f0b,List.forall_mem_cons.2 ⟨f1,fun f hf=>absurd hf List.not_mem_nil⟩⟩⟩) fun ρ=> .bool _
theorem gext_ok {f:Nat} (h:gext f us H=some (g,H')) (R:Rel w0 ρ H w) (hr:RlL ρ us vs):CallSem Tryz.prog w0 ρ f vs w g H':=by
 unfold gext at h
 cases e0:Nat.beq f 32 with
 |true=>rw[e0]at h;rw[Nat.eq_of_beq_eq_true e0];exact hk32_ok h R hr
 |false=>
 rw[e0]at h
 cases e1:Nat.beq f 28 with
 |true=>rw[e1]at h;rw[Nat.eq_of_beq_eq_true e1];exact hk28_ok h R hr
 |false=>
 rw[e1]at h
 cases e2:Nat.beq f 135 with
 |true=>rw[e2]at h;rw[Nat.eq_of_beq_eq_true e2];exact hk135_ok h R hr
 |false=>
 rw[e2]at h
 cases e3:Nat.beq f 105 with
 |true=>rw[e3]at h;rw[Nat.eq_of_beq_eq_true e3];exact hk105_ok h R hr
 |false=>
 rw[e3]at h
 cases e4:Nat.beq f 13 with
 |true=>rw[e4]at h;rw[Nat.eq_of_beq_eq_true e4];exact hk13_ok h R hr
 |false=>
 rw[e4]at h
 cases h
end
theorem tabs_ok:TabOk Tryz.prog tyTab:=⟨tyTab_ok⟩
theorem rec_ok {gs:Gls} (w0:Base gs):CallOk Tryz.prog w0 (chOne tyTab 115 Tryz.f115):=chOne_ok tabs_ok mixedOrders Tryz.func115 Tryz.call115 (by kernel_rfl)
theorem def_ok (args:Array Value) (w:World) (hs:args.size=2):CallsDIn (FR none) 0 Tryz.prog 114 args .returning w fun e u' w'=>∃v,e = .returned v∧u' = .returning∧Ext w w':=by
 obtain⟨out,h,he⟩:=okN_spec (r:=evOps tyTab (chOne tyTab 115 Tryz.f115) (bodyOps Tryz.f114) (evC tyTab (chOne tyTab 115 Tryz.f115) (fun _ _ _ _=>none) (bodyRest Tryz.f114) 0 ⟨[],0,[]⟩ (retN [])) (bodyOps Tryz.f114).tail ⟨[(bodyDst Tryz.f114,.inil)],H0⟩) (by kernel_rfl)
 exact caught_ok (ch:=chOne tyTab 115 Tryz.f115) (lp:=fun _ _ _ _=>none) tabs_ok mixedOrders rec_ok loopOk_none Tryz.func114 rfl rfl rfl (by decide +kernel) (fun ρ w=>by simp[execOp,resolve,invoke,builtin]) (by kernel_rfl) (by kernel_rfl) rfl (by rw[hs];decide +kernel) h he
theorem gok {T:Nat} (w0:Base (gl T)):GOk Tryz.prog gp rtab.fns w0:=by
 refine⟨tabs_ok,mixedOrders,fun h=> ?_,fun h ρ w vs R hr=>gext_ok h R hr,fun h ρ w vs H R hr=>gexn_ok Tryz.func208 rfl rfl rfl rfl h ρ w vs H R hr,fun R hc h1 h2=> ?_⟩
 ·obtain⟨e,he,h⟩:=ob_some.1 (show ob (rtabF _) _=some _ from h)
  cases h
  obtain⟨q1,q2,q3⟩:=rtabF_fn he
  exact⟨q1,q2,okF_spec q3⟩
 ·exact cat_ok (tb:=tyTab) (T1:=3) (T2:=42) (cc:=114) tabs_ok Tryz.func95 Tryz.call95 Tryz.call114 rfl rfl rfl (alloc_z (by kernel_rfl)) (alloc_z (by kernel_rfl)) (store_z rfl rfl) (store_z rfl rfl) (load_z rfl rfl) (load_z rfl rfl) def_ok R hc h1 h2
end
end Go.Gx
end
section
namespace Go.Gx
open Go Go.Sx Go.RowKit
mutual
def shV (k:Nat):GV->GV
 | .ptr h o=> .ptr (k+h) o
 | .sl h o l s=> .sl (k+h) o l s
 | .map h=> .map (k+h)
 | .fn f a b=> .fn f (shL k a) (shL k b)
 | .agg cs=> .agg (shL k cs)
 | .tup vs=> .tup (shL k vs)
 | .int a b=> .int a b
 | .bool b=> .bool b
 | .str a b=> .str a b
 | .pnil=> .pnil
 | .snil=> .snil
 | .fnil=> .fnil
 | .inil=> .inil
 | .un=> .un
 | .bad=> .bad
def shL (k:Nat):List GV->List GV
 | []=>[]
 |v::r=>shV k v::shL k r
end
theorem shL_get (k:Nat):∀(l:List GV) (i:Nat),(shL k l)[i]? = (l[i]?).map (shV k)
 | [],i=>rfl
 |v::r,0=>rfl
 |v::r,i+1=>by simpa [shL]using shL_get k r i
theorem shL_len (k:Nat):∀(l:List GV),(shL k l).length=l.length
 | []=>rfl
 |v::r=>by simp[shL,shL_len k r]
def shO (k:Nat):GO->GO
 | .cells cs=> .cells (shL k cs)
 | .mp es=> .mp (es.map fun e=>(shV k e.1,shV k e.2))
def shLoc (k:Nat) (l:Loc):Loc:={l with o:=shO k l.o}
theorem Rl.shift {ρ ρ':Rho} {k:Nat} (hρ:∀h l,ρ h=some l->ρ' (k+h)=some (shLoc k l)) {g:GV} {v:Value} (h:Rl ρ g v):Rl ρ' (shV k g) v:=by
 have lst:∀{us:List GV} {us':List Value},(∀(i:Nat) g v,us[i]? = some g->us'[i]? = some v->Rl ρ' (shV k g) v)->∀(i:Nat) g v,(shL k us)[i]? = some g->us'[i]? = some v->Rl ρ' g v:=by
  intro us us' hh i g v hg hv
  rw[shL_get]at hg
  obtain⟨g0,h0,rfl⟩:=Option.map_eq_some_iff.1 hg
  exact hh i g0 v h0 hv
 induction h with
 |int a n=>simp only[shV];exact .int a n
 |bool b=>simp only[shV];exact .bool b
 |str s=>simp only[shV];exact .str s
 |ptr off h=>simp only[shV];exact .ptr (l:=shLoc k _) off (hρ _ _ h)
 |pnil=>simp only[shV];exact .pnil
 |sl h hc ha=>simp only[shV];exact .sl (l:=shLoc k _) (hρ _ _ h) hc ha
 |snil=>simp only[shV];exact .snil
 |map h=>simp only[shV];exact .map (l:=shLoc k _) (hρ _ _ h)
 |fn f h1 h2 h3 h4 ih2 ih4=>simp only[shV];exact .fn f (by rw[shL_len];exact h1) (lst ih2) (by rw[shL_len];exact h3) (lst ih4)
 |fnil=>simp only[shV];exact .fnil
 |inil=>simp only[shV];exact .inil
 |agg h1 h2 h3 ih=>simp only[shV];exact .agg (by rw[shL_len];exact h1) (lst ih) h3
 |tup h1 h2 ih=>simp only[shV];exact .tup (by rw[shL_len];exact h1) (lst ih)
 |un=>simp only[shV];exact .un
 |bad v=>simp only[shV];exact .bad v

abbrev OL:=List (Nat×Nat×GO)
def lkO:OL->Nat->Option (Nat×GO)
 | [],_=>none
 |x::r,h=>if h=x.1 then some x.2 else lkO r h
theorem lkO_mem {os:OL} {h:Nat} {p:Nat×GO} (hl:lkO os h=some p):(h,p)∈os:=by
 induction os with
 |nil=>cases hl
 |cons x r ih=>
  simp only[lkO]at hl
  split at hl
  ·rename_i e;cases hl;subst e;exact List.mem_cons_self
  ·exact List.mem_cons_of_mem _ (ih hl)
noncomputable def putO (k:Nat) (t:Tr (Nat×GO)):OL->Tr (Nat×GO)
 | []=>t
 |x::r=>(putO k t r).set (some (k+x.2.1,shO k x.2.2)) (k+x.1)
noncomputable def rawO:OL->Tr (Nat×GO)
 | []=> .lf
 |x::r=>(rawO r).set (some x.2) x.1
theorem rawO_get:∀(os:OL) (h:Nat),(rawO os).get h=lkO os h
 | [],h=>rfl
 |x::r,h=>by
  show((rawO r).set (some x.2) x.1).get h=_
  rw[Tr.get_set]
  simp only[lkO]
  split
  ·rfl
  ·exact rawO_get r h
theorem putO_get (k:Nat) (t:Tr (Nat×GO)):∀(os:OL) (h:Nat),(putO k t os).get h=if k<=h then(match lkO os (h - k)with|some p=>some (k+p.1,shO k p.2)|none=>t.get h)else t.get h
 | [],h=>by simp[putO,lkO]
 | x :: r, h => by
  show((putO k t r).set (some (k+x.2.1,shO k x.2.2)) (k+x.1)).get h=_
  rw[Tr.get_set,putO_get k t r h]
  by_cases e:h=k+x.1
  ·subst e
   rw[if_pos rfl,if_pos (by omega)]
   simp[lkO]
  ·rw[if_neg e]
   by_cases hk:k<=h
   ·rw[if_pos hk,if_pos hk]
    simp only[lkO]
    rw[if_neg (show¬h - k=x.1 by omega)]
   ·rw[if_neg hk,if_neg hk]
noncomputable def mkH (n:Nat) (os:OL):GH:=⟨n,rawO os⟩
noncomputable def GH.load (H:GH) (n:Nat) (os:OL):GH:=⟨H.n+n,putO H.n H.t os⟩
section
variable {gs:Gls} {w0:Base gs} {w w':World} {ρ ρ2:Rho} {H:GH} {n:Nat} {os:OL}
theorem GH.get_some {H:GH} {h:Nat} {o:GO}:H.get h=some o↔∃v,H.t.get h=some (v,o):=by
 unfold GH.get
 cases hh:H.t.get h with
 |none=>simp[ob]
 |some p=>obtain⟨a,b⟩:=p;simp[ob]
theorem GH.ver_some {H:GH} {h v:Nat}:H.ver h=some v↔∃o,H.t.get h=some (v,o):=by
 unfold GH.ver
 cases hh:H.t.get h with
 |none=>simp[ob]
 |some p=>obtain⟨a,b⟩:=p;simp[ob]
theorem Rel.sub {H2:GH} (R:Rel w0 ρ H w) (hn:H2.n=H.n) (hs:∀h p,H2.t.get h=some p->H.t.get h=some p):Rel w0 ρ H2 w:=by
 have g:∀h o,H2.get h=some o->H.get h=some o:=fun h o hg=>by
  obtain⟨v,hv⟩:=GH.get_some.1 hg
  exact GH.get_some.2 ⟨v,hs _ _ hv⟩
 refine⟨R.ext,fun h o hg=>R.live h o (g h o hg),fun h h' o o' l l' h1 h2=>R.inj h h' o o' l l' (g _ _ h1) (g _ _ h2),fun h hh=>R.fresh h (by omega),fun h hh=>R.dense h (by omega),fun h v l hv hl=> ?_⟩
 obtain⟨o,ho⟩:=GH.ver_some.1 hv
 obtain⟨lv,a,b,c⟩:=R.vers h v l (GH.ver_some.2 ⟨o,hs _ _ ho⟩) hl
 refine⟨lv,a,b,?_⟩
 have h1:=GH.get_some.2 ⟨v,ho⟩
 have h2:=g _ _ h1
 rw[c]at h2;cases h2;exact h1
theorem ObjOk.shift {l:Loc} {o:GO} {ρ':Rho} {k:Nat} (hρ:∀h l,ρ2 h=some l->ρ' (k+h)=some (shLoc k l)) (h:ObjOk ρ2 w l o):ObjOk ρ' w (shLoc k l) (shO k o):=by
 cases o with
 |cells cs=>
  obtain⟨cur,T,h1,h2,h3,h4⟩:=h
  refine⟨cur,T,h1,h2,by rw[shL_len];exact h3,fun i g hg=> ?_⟩
  rw[shL_get]at hg
  obtain⟨g0,h0,rfl⟩:=Option.map_eq_some_iff.1 hg
  obtain⟨v,a,b,c⟩:=h4 i g0 h0
  exact⟨v,a,b.shift hρ,c⟩
 |mp es=>
  obtain⟨en,cl,h1,h2,h3⟩:=h
  refine⟨en,cl,h1,by simpa [shO]using h2,fun i g hg=> ?_⟩
  rw[List.getElem?_map]at hg
  obtain⟨g0,h0,rfl⟩:=Option.map_eq_some_iff.1 hg
  obtain⟨m,a,b,c⟩:=h3 i g0 h0
  exact⟨m,a,b.shift hρ,c.shift hρ⟩
theorem Rel.join {hb:GlsOk gs w fun _=>False} (R:Rel w0 ρ H w) (R2:Rel (Base.of w hb) ρ2 (mkH n os) w'):
  ∃ρ':Rho,ρ.le ρ'∧Rel w0 ρ' (H.load n os) w'∧∀g v,Rl ρ2 g v->Rl ρ' (shV H.n g) v:=by
 let ρ':Rho:=fun h=>if h<H.n then ρ h else(ρ2 (h - H.n)).map (shLoc H.n)
 have hle:ρ.le ρ':=fun h l hl=>by
  have hlt:h<H.n:=by
   rcases Nat.lt_or_ge h H.n with q|q
   ·exact q
   ·rw[R.fresh h q]at hl;cases hl
  show(if h<H.n then ρ h else _)=_
  rw[if_pos hlt];exact hl
 have hsh:∀h l,ρ2 h=some l->ρ' (H.n+h)=some (shLoc H.n l):=fun h l hl=>by
  show(if H.n+h<H.n then _ else _)=_
  rw[if_neg (by omega),show H.n+h - H.n=h by omega,hl];rfl
 have hlow:∀h,h<H.n->ρ' h=ρ h:=fun h hh=>by show(if h<H.n then ρ h else _)=_;rw[if_pos hh]
 have hhigh:∀h,H.n<=h->ρ' h=(ρ2 (h - H.n)).map (shLoc H.n):=fun h hh=>by show(if h<H.n then ρ h else _)=_;rw[if_neg (by omega)]
 have hnone:∀h,H.n<=h->H.t.get h=none:=fun h hh=>by
  cases hg:H.t.get h with
  |none=>rfl
  |some p=>exact absurd (R.lt (GH.get_some.2 ⟨p.1,hg⟩)) (by omega)
 have gl:∀h,h<H.n->(H.load n os).t.get h=H.t.get h:=fun h hh=>by
  show(putO H.n H.t os).get h=_
  rw[putO_get,if_neg (by omega)]
 have gh:∀h p,H.n<=h->(H.load n os).t.get h=some p->∃p2,(mkH n os).t.get (h - H.n)=some p2∧p=(H.n+p2.1,shO H.n p2.2):=fun h p hh hp=>by
  have hp':(putO H.n H.t os).get h=some p:=hp
  rw[putO_get,if_pos hh,hnone h hh]at hp'
  cases hk:lkO os (h - H.n)with
  |none=>rw[hk]at hp';cases hp'
  |some p2=>rw[hk]at hp';cases hp';exact⟨p2,(rawO_get os _).trans hk,rfl⟩
 have e2:Ext w w':=R2.ext.ext
 have mine2:∀l:Loc,(Base.of w hb).mine l.b->w.heap.size<=l.b:=fun l h=>by
  rcases h with h|h
  ·exact h
  ·exact h.elim
 have liveL:∀h o,h<H.n->(H.load n os).get h=some o->∃l,ρ h=some l∧w0.mine l.b∧ObjOk ρ w l o∧H.get h=some o:=fun h o hh hg=>by
  obtain⟨v,hv⟩:=GH.get_some.1 hg
  rw[gl h hh]at hv
  have hg':=GH.get_some.2 ⟨v,hv⟩
  obtain⟨l,a,b,c⟩:=R.live h o hg'
  exact⟨l,a,b,c,hg'⟩
 have liveH:∀h o,H.n<=h->(H.load n os).get h=some o->∃l o2,ρ2 (h - H.n)=some l∧w.heap.size<=l.b∧ObjOk ρ2 w' l o2∧o=shO H.n o2∧(mkH n os).get (h - H.n)=some o2:=fun h o hh hg=>by
  obtain⟨v,hv⟩:=GH.get_some.1 hg
  obtain⟨p2,h2,e⟩:=gh h _ hh hv
  cases e
  have hg':(mkH n os).get (h - H.n)=some p2.2:=GH.get_some.2 ⟨p2.1,h2⟩
  obtain⟨l,a,b,c⟩:=R2.live _ _ hg'
  exact⟨l,p2.2,a,mine2 l b,c,rfl,hg'⟩
 refine⟨ρ',hle,⟨R.ext.trans e2,fun h o hg=> ?_,fun h h' o o' l l' h1 h2 hl hl' hbb=> ?_,fun h hh=> ?_,fun h hh=> ?_,fun h v l hv hl=> ?_⟩,fun g v hg=>hg.shift hsh⟩
 ·rcases Nat.lt_or_ge h H.n with q|q
  ·obtain⟨l,a,b,c,_⟩:=liveL h o q hg
   exact⟨l,by rw[hlow h q];exact a,b,c.move hle (e2.block _ c.lt)⟩
  ·obtain⟨l,o2,a,b,c,rfl,_⟩:=liveH h o q hg
   exact⟨shLoc H.n l,by rw[hhigh h q,a];rfl,.inl (Nat.le_trans R.ext.size b),c.shift hsh⟩
 ·rcases Nat.lt_or_ge h H.n with q|q<;>rcases Nat.lt_or_ge h' H.n with q'|q'
  ·obtain⟨l1,a1,_,_,g1⟩:=liveL h o q h1
   obtain⟨l2,a2,_,_,g2⟩:=liveL h' o' q' h2
   rw[hlow h q,a1]at hl;rw[hlow h' q',a2]at hl'
   cases hl;cases hl'
   exact R.inj h h' o o' _ _ g1 g2 a1 a2 hbb
  ·obtain⟨l1,a1,_,c1,g1⟩:=liveL h o q h1
   obtain⟨l2,o2,a2,b2,_,rfl,g2⟩:=liveH h' o' q' h2
   rw[hlow h q,a1]at hl;rw[hhigh h' q',a2]at hl'
   cases hl;cases hl'
   have:=c1.lt
   simp only[shLoc]at hbb
   omega
  ·obtain⟨l1,o1,a1,b1,_,rfl,g1⟩:=liveH h o q h1
   obtain⟨l2,a2,_,c2,g2⟩:=liveL h' o' q' h2
   rw[hhigh h q,a1]at hl;rw[hlow h' q',a2]at hl'
   cases hl;cases hl'
   have:=c2.lt
   simp only[shLoc]at hbb
   omega
  ·obtain⟨l1,o1,a1,b1,_,rfl,g1⟩:=liveH h o q h1
   obtain⟨l2,o2,a2,b2,_,rfl,g2⟩:=liveH h' o' q' h2
   rw[hhigh h q,a1]at hl;rw[hhigh h' q',a2]at hl'
   cases hl;cases hl'
   have:=R2.inj _ _ _ _ _ _ g1 g2 a1 a2 hbb
   omega
 ·have hh':H.n+n<=h:=hh
  rw[hhigh h (by omega),R2.fresh (h - H.n) (by show n<=_;omega)];rfl
 ·have hh':h<H.n+n:=hh
  rcases Nat.lt_or_ge h H.n with q|q
  ·obtain⟨l,hl⟩:=R.dense h q
   exact⟨l,by rw[hlow h q];exact hl⟩
  ·obtain⟨l,hl⟩:=R2.dense (h - H.n) (by show _<n;omega)
   exact⟨shLoc H.n l,by rw[hhigh h q,hl];rfl⟩
 ·obtain⟨o,ho⟩:=GH.ver_some.1 hv
  rcases Nat.lt_or_ge h H.n with q|q
  ·rw[gl h q]at ho
   rw[hlow h q]at hl
   obtain⟨lv,a,b,c⟩:=R.vers h v l (GH.ver_some.2 ⟨o,ho⟩) hl
   have hg:=GH.get_some.2 ⟨v,ho⟩
   obtain⟨l',hl',_,ck⟩:=R.live h o hg
   rw[hl]at hl';cases hl'
   refine⟨lv,hle _ _ a,by rw[e2.block _ ck.lt];exact b,?_⟩
   obtain⟨v2,hv2⟩:=GH.get_some.1 c
   exact GH.get_some.2 ⟨v2,by rw[gl h q];exact hv2⟩
  ·obtain⟨p2,h2,e⟩:=gh h _ q ho
   cases e
   rw[hhigh h q]at hl
   obtain⟨l2,hl2,rfl⟩:=Option.map_eq_some_iff.1 hl
   obtain⟨lv,a,b,c⟩:=R2.vers (h - H.n) p2.1 l2 (GH.ver_some.2 ⟨p2.2,h2⟩) hl2
   refine⟨shLoc H.n lv,hsh _ _ a,b,?_⟩
   have h3:(mkH n os).get (h - H.n)=some p2.2:=GH.get_some.2 ⟨p2.1,h2⟩
   rw[c]at h3
   have h4:=Option.some.inj h3
   exact GH.get_some.2 ⟨_,by rw[ho,<-h4];rfl⟩
end

theorem eqS_pair {a b:Nat×Nat} (h:eqS a b=true):a=b:=by
 obtain⟨a1,a2⟩:=a
 obtain⟨b1,b2⟩:=b
 unfold eqS at h
 cases h2:Nat.beq a2 b2 with
 |false=>simp[h2]at h
 |true=>
  simp only[h2,cond_true]at h
  rw[Nat.eq_of_beq_eq_true h,Nat.eq_of_beq_eq_true h2]
theorem rl_str {ρ:Rho} {n l:Nat} {x:ByteArray} (e1:n=encB (bytesOfV x)) (e2:l=(bytesOfV x).length):Rl ρ (.str n l) (.string x):=by
 rw[e1,e2];exact .str x
def isS (us:List GV) (p:Nat×Nat):Bool:=List.casesOn (motive:=fun _=>Bool) us false fun u r=>List.casesOn (motive:=fun _=>Bool) r (Option.casesOn (motive:=fun _=>Bool) (GV.asStr u) false fun s=>eqS s p) fun _ _=>false
theorem isS_eq {us:List GV} {p:Nat×Nat} (h:isS us p=true):us=[.str p.1 p.2]:=by
 cases us with
 |nil=>cases h
 | cons u r =>
  cases r with
  |cons _ _=>cases h
  | nil =>
   cases hu:GV.asStr u with
   |none=>simp[isS,hu]at h
   |some s=>
    have:eqS s p=true:=by simpa [isS,hu]using h
    rw[asStr_eq hu,eqS_pair this]
noncomputable section
def pickO (H:GH) (hs:List Nat):Option OL:=List.rec (motive:=fun _=>Option OL) (some []) (fun h _ ih=>ob (H.t.get h) fun p=>ob ih fun r=>some ((h,p.1,p.2)::r)) hs
theorem pickO_mem {H:GH}:∀{hs:List Nat} {os:OL},pickO H hs=some os->∀x∈os,H.t.get x.1=some x.2
 | [],os,h,x,hx=>by cases h;cases hx
 |h0::hs,os,h,x,hx=>by
  obtain⟨p,hp,h⟩:=ob_some.1 (show ob (H.t.get h0) (fun p=>ob (pickO H hs) fun r=>some ((h0,p.1,p.2)::r))=some os from h)
  obtain⟨r,hr,h⟩:=ob_some.1 h
  cases h
  rcases List.mem_cons.1 hx with rfl|hx
  ·exact hp
  ·exact pickO_mem hr x hx
def memoR (T:Tabs) (G:GP) (fuel f:Nat) (us:List GV) (hs:List Nat):Option (GV×Nat×OL):=ob (callR T G fuel f us H0) fun r=>ob (pickO r.2 hs) fun os=>some (r.1,r.2.n,os)
def shK {R:Type} (k:Nat) (v:GV) (f:GV->R):R:=GV.casesOn (motive_1:=fun _=>R) v (fun a b=>f (.int a b)) (fun b=>f (.bool b)) (fun a b=>f (.str a b)) (fun h o=>sn (Nat.add k h) fun h=>f (.ptr h o)) (f .pnil) (fun h o l s=>sn (Nat.add k h) fun h=>f (.sl h o l s)) (f .snil) (fun h=>sn (Nat.add k h) fun h=>f (.map h)) (fun a b c=>f (shV k (.fn a b c))) (f .fnil) (f .inil) (fun cs=>f (shV k (.agg cs))) (fun vs=>f (shV k (.tup vs))) (f .un) (f .bad)
theorem shK_eq {R:Type} (k:Nat) (v:GV) (f:GV->R):shK k v f=f (shV k v):=by
 cases v<;>simp[shK,sn_eq,shV]
def shLK {R:Type} (k:Nat) (l:List GV):(List GV->R)->R:=List.rec (motive:=fun _=>(List GV->R)->R) (fun f=>f []) (fun x _ ih f=>shK k x fun y=>ih fun r=>f (y::r)) l
theorem shLK_eq {R:Type} (k:Nat):∀(l:List GV) (f:List GV->R),shLK k l f=f (shL k l)
 | [],f=>rfl
 |x::l,f=>by
  show shK k x (fun y=>shLK k l fun r=>f (y::r))=_
  rw[shK_eq,shLK_eq k l];rfl
def shOK {R:Type} (k:Nat) (o:GO) (f:GO->R):R:=GO.casesOn (motive:=fun _=>R) o (fun cs=>shLK k cs fun cs=>f (.cells cs)) (fun es=>f (shO k (.mp es)))
theorem shOK_eq {R:Type} (k:Nat) (o:GO) (f:GO->R):shOK k o f=f (shO k o):=by
 cases o with
 |cells cs=>exact shLK_eq k cs _
 |mp es=>rfl
def putK {R:Type} (k:Nat) (t:Tr (Nat×GO)) (os:OL):(Tr (Nat×GO)->R)->R:=List.rec (motive:=fun _=>(Tr (Nat×GO)->R)->R) (fun f=>f t) (fun x _ ih f=>ih fun t=>sn (Nat.add k x.2.1) fun v=>sn (Nat.add k x.1) fun h=>shOK k x.2.2 fun o=>t.setK (some (v,o)) h f) os
theorem putK_eq {R:Type} (k:Nat) (t:Tr (Nat×GO)):∀(os:OL) (f:Tr (Nat×GO)->R),putK k t os f=f (putO k t os)
 | [],f=>rfl
 |x::os,f=>by
  show putK k t os (fun t=>sn (Nat.add k x.2.1) fun v=>sn (Nat.add k x.1) fun h=>shOK k x.2.2 fun o=>t.setK (some (v,o)) h f)=_
  rw[putK_eq k t os]
  simp only[sn_eq,shOK_eq,Tr.setK_eq];rfl
def memoK (g:GV) (n:Nat) (os:OL) (H:GH):Option (GV×GH):=sn H.n fun k=>shK k g fun g=>putK k H.t os fun t=>sn (Nat.add k n) fun m=>some (g,⟨m,t⟩)
theorem memoK_eq (g:GV) (n:Nat) (os:OL) (H:GH):memoK g n os H=some (shV H.n g,H.load n os):=by
 unfold memoK
 simp only[sn_eq,shK_eq,putK_eq];rfl
theorem memo_ok {P:Program} {T:Tabs} {G:GP} {gs:Gls} (hT:TabsOk T G.tab) (hG:∀w0:Base gs,GOk P G T.fns w0) {fuel f n:Nat} {us:List GV} {vs:List Value} {hs:List Nat} {g:GV} {os:OL} (hm:memoR T G fuel f us hs=some (g,n,os)) (hb:HasBody P f)
  {w0:Base gs} {w:World} {ρ:Rho} {H H':GH} {g':GV} (hv:RlL (fun _=>none) us vs) (h:memoK g n os H=some (g',H')) (R:Rel w0 ρ H w):CallSem P w0 ρ f vs w g' H':=by
 rw[memoK_eq]at h;cases h
 obtain⟨r,hr,hm⟩:=ob_some.1 (show ob (callR T G fuel f us H0) _=some (g,n,os)from hm)
 obtain⟨os',hos,hm⟩:=ob_some.1 hm
 cases hm
 rw[callR_eq hT]at hr
 have hgl:GlsOk gs w fun _=>False:=fun p hp=>⟨(R.glo p hp).1,id⟩
 rcases callF_ok hG (H':=r.2) (g:=r.1) hr (Rel.start (Base.of w hgl)) hv with⟨v,w',ρ',hr',_⟩|⟨_,hc⟩
 ·have:=hb vs.toArray w
  rw[show(Base.of w hgl).w=w from rfl,this]at hr';cases hr'
 ·refine .inr ⟨hb _ w,hc.mono ?_⟩
  rintro e w' ⟨v,ρ2,rfl,_,R2,hr2⟩
  have R3:Rel (Base.of w hgl) ρ2 (mkH r.2.n os) w':=R2.sub rfl fun h p hp=>by
   have:lkO os h=some p:=(rawO_get os h).symm.trans hp
   exact pickO_mem hos _ (lkO_mem this)
  obtain⟨ρ',hle,R4,hsh⟩:=R.join R3
  exact⟨v,ρ',rfl,hle,R4,hsh _ _ hr2⟩
end
end Go.Gx
end
section
set_option maxRecDepth 100000
namespace Go.Gx
open Go Go.Sx Go.Proofs Go.Proofs.YtfbkplemadmbfaaGreatDoor
def mu0:List GV:=[.str 62612022078668281795505554093363622559854195865949253215105900396045672359969877880166549174032343132993734957765569202214538907514566311350427701009544032694847337705793280154083690688451269616688782133795410379376928705130345296445151552924450334836917827234573469831105668184247309683323748037249326305257450566500613104582596739355858495108587194514699348039550352061107652063950585699432193800786308390540153052463342825471615451497403378237530695269756800903089344746135921082798862585170912282432061314226997690214573863871773160495090950365393003392302336199511227963345777762340303723847551010267882950244475187531638497589816884840746003832656122559568072415127281877587919955134951848720898362784721630179183632514071187737718801766045181382178059597531935953865739058317213402067112106178269539818406468794623567714368406699984352401615611648009540554670638379077003046691601651659503488023036016650041344236444492625067110609540290467946795853434537583557082408411183186533670519462632865144031819183310381452310956185194634675703732849182713820334837695243446565596654286740386031565011357996399800921820918955437335624617843094112596863701508946442457135114386851122925397296113071978999231011209672540734656076492347048890983156526043032785285927167596865683405763291449118335047510792439178363711784660496025932951555546329846668545661249500619781993860494368395467151808107769959479474456951167188694307489519361853029722953071634727739222067984252267479508130870821814111526873691367656719627636282162632229619012164283959600299915921951610829461135327475232013270964287406921117221047932843602716792612622967992944 679]
def mg0:GV:=(.tup [(.sl 2567 0 301 4),(.int .i64 (.ofNat 0)),(.int .i64 (.ofNat 0))])
def mo0:OL:=[(2567,2567,.cells [(.int .i64 (.ofNat 1)),(.int .i64 (.ofNat 0)),(.int .i64 (.ofNat 7)),(.int .i64 (.ofNat 0)),(.int .i64 (.ofNat 1)),(.int .i64 (.ofNat 8)),(.int .i64 (.ofNat 13)),(.int .i64 (.ofNat 0)),(.int .i64 (.ofNat 3)),(.int .i64 (.ofNat 13)),(.int .i64 (.ofNat 14)),(.int .i64 (.ofNat 0)),(.int .i64 (.ofNat 1)),(.int .i64 (.ofNat 15)),(.int .i64 (.ofNat 18)),(.int .i64 (.ofNat 0)),(.int .i64 (.ofNat 1)),(.int .i64 (.ofNat 19)),(.int .i64 (.ofNat 20)),(.int .i64 (.ofNat 0)),(.int .i64 (.ofNat 3)),(.int .i64 (.ofNat 21)),(.int .i64 (.ofNat 22)),(.int .i64 (.ofNat 0)),(.int .i64 (.ofNat 2)),(.int .i64 (.ofNat 23)),(.int .i64 (.ofNat 24)),(.int .i64 (.ofNat 0)),(.int .i64 (.ofNat 3)),(.int .i64 (.ofNat 25)),(.int .i64 (.ofNat 27)),(.int .i64 (.ofNat 0)),(.int .i64 (.ofNat 1)),(.int .i64 (.ofNat 28)),(.int .i64 (.ofNat 29)),(.int .i64 (.ofNat 0)),(.int .i64 (.ofNat 3)),(.int .i64 (.ofNat 29)),(.int .i64 (.ofNat 30)),(.int .i64 (.ofNat 0)),(.int .i64 (.ofNat 1)),(.int .i64 (.ofNat 31)),(.int .i64 (.ofNat 34)),(.int .i64 (.ofNat 0)),(.int .i64 (.ofNat 1)),(.int .i64 (.ofNat 35)),(.int .i64 (.ofNat 36)),(.int .i64 (.ofNat 0)),(.int .i64 (.ofNat 3)),(.int .i64 (.ofNat 37)),(.int .i64 (.ofNat 38)),(.int .i64 (.ofNat 0)),(.int .i64 (.ofNat 1)),(.int .i64 (.ofNat 39)),(.int .i64 (.ofNat 43)),(.int .i64 (.ofNat 0)),(.int .i64 (.ofNat 3)),(.int .i64 (.ofNat 43)),(.int .i64 (.ofNat 44)),(.int .i64 (.ofNat 0)),(.int .i64 (.ofNat 1)),(.int .i64 (.ofNat 45)),(.int .i64 (.ofNat 48)),(.int .i64 (.ofNat 0)),(.int .i64 (.ofNat 1)),(.int .i64 (.ofNat 49)),(.int .i64 (.ofNat 50)),(.int .i64 (.ofNat 0)),(.int .i64 (.ofNat 3)),(.int .i64 (.ofNat 51)),(.int .i64 (.ofNat 52)),(.int .i64 (.ofNat 0)),(.int .i64 (.ofNat 1)),(.int .i64 (.ofNat 53)),(.int .i64 (.ofNat 57)),(.int .i64 (.ofNat 0)),(.int .i64 (.ofNat 3)),(.int .i64 (.ofNat 57)),(.int .i64 (.ofNat 58)),(.int .i64 (.ofNat 0)),(.int .i64 (.ofNat 1)),(.int .i64 (.ofNat 59)),(.int .i64 (.ofNat 62)),(.int .i64 (.ofNat 0)),(.int .i64 (.ofNat 1)),(.int .i64 (.ofNat 63)),(.int .i64 (.ofNat 64)),(.int .i64 (.ofNat 0)),(.int .i64 (.ofNat 3)),(.int .i64 (.ofNat 65)),(.int .i64 (.ofNat 66)),(.int .i64 (.ofNat 0)),(.int .i64 (.ofNat 1)),(.int .i64 (.ofNat 67)),(.int .i64 (.ofNat 71)),(.int .i64 (.ofNat 0)),(.int .i64 (.ofNat 3)),(.int .i64 (.ofNat 71)),(.int .i64 (.ofNat 72)),(.int .i64 (.ofNat 0)),(.int .i64 (.ofNat 1)),(.int .i64 (.ofNat 73)),(.int .i64 (.ofNat 76)),(.int .i64 (.ofNat 0)),(.int .i64 (.ofNat 1)),(.int .i64 (.ofNat 77)),(.int .i64 (.ofNat 78)),(.int .i64 (.ofNat 0)),(.int .i64 (.ofNat 3)),(.int .i64 (.ofNat 79)),(.int .i64 (.ofNat 80)),(.int .i64 (.ofNat 0)),(.int .i64 (.ofNat 2)),(.int .i64 (.ofNat 81)),(.int .i64 (.ofNat 82)),(.int .i64 (.ofNat 0)),(.int .i64 (.ofNat 3)),(.int .i64 (.ofNat 83)),(.int .i64 (.ofNat 85)),(.int .i64 (.ofNat 0)),(.int .i64 (.ofNat 2)),(.int .i64 (.ofNat 86)),(.int .i64 (.ofNat 87)),(.int .i64 (.ofNat 3)),(.int .i64 (.ofNat 3)),(.int .i64 (.ofNat 87)),(.int .i64 (.ofNat 88)),(.int .i64 (.ofNat 0)),(.int .i64 (.ofNat 1)),(.int .i64 (.ofNat 89)),(.int .i64 (.ofNat 92)),(.int .i64 (.ofNat 0)),(.int .i64 (.ofNat 1)),(.int .i64 (.ofNat 93)),(.int .i64 (.ofNat 94)),(.int .i64 (.ofNat 0)),(.int .i64 (.ofNat 3)),(.int .i64 (.ofNat 95)),(.int .i64 (.ofNat 96)),(.int .i64 (.ofNat 0)),(.int .i64 (.ofNat 1)),(.int .i64 (.ofNat 97)),(.int .i64 (.ofNat 101)),(.int .i64 (.ofNat 0)),(.int .i64 (.ofNat 3)),(.int .i64 (.ofNat 101)),(.int .i64 (.ofNat 102)),(.int .i64 (.ofNat 0)),(.int .i64 (.ofNat 1)),(.int .i64 (.ofNat 103)),(.int .i64 (.ofNat 107)),(.int .i64 (.ofNat 0)),(.int .i64 (.ofNat 1)),(.int .i64 (.ofNat 108)),(.int .i64 (.ofNat 111)),(.int .i64 (.ofNat 0)),(.int .i64 (.ofNat 3)),(.int .i64 (.ofNat 111)),(.int .i64 (.ofNat 112)),(.int .i64 (.ofNat 0)),(.int .i64 (.ofNat 1)),(.int .i64 (.ofNat 113)),(.int .i64 (.ofNat 117)),(.int .i64 (.ofNat 0)),(.int .i64 (.ofNat 3)),(.int .i64 (.ofNat 118)),(.int .i64 (.ofNat 120)),(.int .i64 (.ofNat 0)),(.int .i64 (.ofNat 3)),(.int .i64 (.ofNat 121)),(.int .i64 (.ofNat 122)),(.int .i64 (.ofNat 0)),(.int .i64 (.ofNat 1)),(.int .i64 (.ofNat 122)),(.int .i64 (.ofNat 123)),(.int .i64 (.ofNat 0)),(.int .i64 (.ofNat 3)),(.int .i64 (.ofNat 124)),(.int .i64 (.ofNat 126)),(.int .i64 (.ofNat 0)),(.int .i64 (.ofNat 2)),(.int .i64 (.ofNat 127)),(.int .i64 (.ofNat 128)),(.int .i64 (.ofNat 0)),(.int .i64 (.ofNat 3)),(.int .i64 (.ofNat 129)),(.int .i64 (.ofNat 131)),(.int .i64 (.ofNat 0)),(.int .i64 (.ofNat 1)),(.int .i64 (.ofNat 132)),(.int .i64 (.ofNat 133)),(.int .i64 (.ofNat 0)),(.int .i64 (.ofNat 3)),(.int .i64 (.ofNat 134)),(.int .i64 (.ofNat 136)),(.int .i64 (.ofNat 0)),(.int .i64 (.ofNat 1)),(.int .i64 (.ofNat 137)),(.int .i64 (.ofNat 141)),(.int .i64 (.ofNat 0)),(.int .i64 (.ofNat 3)),(.int .i64 (.ofNat 141)),(.int .i64 (.ofNat 142)),(.int .i64 (.ofNat 0)),(.int .i64 (.ofNat 3)),(.int .i64 (.ofNat 143)),(.int .i64 (.ofNat 145)),(.int .i64 (.ofNat 0)),(.int .i64 (.ofNat 1)),(.int .i64 (.ofNat 146)),(.int .i64 (.ofNat 147)),(.int .i64 (.ofNat 0)),(.int .i64 (.ofNat 3)),(.int .i64 (.ofNat 148)),(.int .i64 (.ofNat 150)),(.int .i64 (.ofNat 0)),(.int .i64 (.ofNat 2)),(.int .i64 (.ofNat 151)),(.int .i64 (.ofNat 152)),(.int .i64 (.ofNat 0)),(.int .i64 (.ofNat 3)),(.int .i64 (.ofNat 152)),(.int .i64 (.ofNat 153)),(.int .i64 (.ofNat 0)),(.int .i64 (.ofNat 1)),(.int .i64 (.ofNat 154)),(.int .i64 (.ofNat 155)),(.int .i64 (.ofNat 0)),(.int .i64 (.ofNat 3)),(.int .i64 (.ofNat 156)),(.int .i64 (.ofNat 158)),(.int .i64 (.ofNat 0)),(.int .i64 (.ofNat 1)),(.int .i64 (.ofNat 159)),(.int .i64 (.ofNat 163)),(.int .i64 (.ofNat 0)),(.int .i64 (.ofNat 3)),(.int .i64 (.ofNat 163)),(.int .i64 (.ofNat 164)),(.int .i64 (.ofNat 0)),(.int .i64 (.ofNat 1)),(.int .i64 (.ofNat 165)),(.int .i64 (.ofNat 169)),(.int .i64 (.ofNat 0)),(.int .i64 (.ofNat 1)),(.int .i64 (.ofNat 170)),(.int .i64 (.ofNat 173)),(.int .i64 (.ofNat 0)),(.int .i64 (.ofNat 3)),(.int .i64 (.ofNat 173)),(.int .i64 (.ofNat 174)),(.int .i64 (.ofNat 0)),(.int .i64 (.ofNat 3)),(.int .i64 (.ofNat 175)),(.int .i64 (.ofNat 176)),(.int .i64 (.ofNat 0)),(.int .i64 (.ofNat 1)),(.int .i64 (.ofNat 176)),(.int .i64 (.ofNat 180)),(.int .i64 (.ofNat 0)),(.int .i64 (.ofNat 3)),(.int .i64 (.ofNat 181)),(.int .i64 (.ofNat 183)),(.int .i64 (.ofNat 0)),(.int .i64 (.ofNat 3)),(.int .i64 (.ofNat 184)),(.int .i64 (.ofNat 185)),(.int .i64 (.ofNat 0)),(.int .i64 (.ofNat 1)),(.int .i64 (.ofNat 185)),(.int .i64 (.ofNat 186)),(.int .i64 (.ofNat 0)),(.int .i64 (.ofNat 3)),(.int .i64 (.ofNat 187)),(.int .i64 (.ofNat 189)),(.int .i64 (.ofNat 0)),(.int .i64 (.ofNat 3)),(.int .i64 (.ofNat 190)),(.int .i64 (.ofNat 191)),(.int .i64 (.ofNat 0)),(.int .i64 (.ofNat 1)),(.int .i64 (.ofNat 191)),(.int .i64 (.ofNat 194)),(.int .i64 (.ofNat 0)),(.int .i64 (.ofNat 3)),(.int .i64 (.ofNat 194)),(.int .i64 (.ofNat 195)),(.int .i64 (.ofNat 0)),(.int .i64 (.ofNat 1)),(.int .i64 (.ofNat 195)),(.int .i64 (.ofNat 196)),(.int .i64 (.ofNat 0)),(.int .i64 (.ofNat 3)),(.int .i64 (.ofNat 196)),(.int .i64 (.ofNat 197)),(.int .i64 (.ofNat 0)),(.int .i64 (.ofNat 1)),(.int .i64 (.ofNat 197)),(.int .i64 (.ofNat 198)),(.int .i64 (.ofNat 0)),(.int .i64 (.ofNat 3)),(.int .i64 (.ofNat 198)),(.int .i64 (.ofNat 199)),(.int .i64 (.ofNat 0)),(.int .i64 (.ofNat 3)),(.int .i64 (.ofNat 200)),(.int .i64 (.ofNat 201)),(.int .i64 (.ofNat 0)),(.int .i64 (.ofNat 1)),(.int .i64 (.ofNat 202)),(.int .i64 (.ofNat 203)),(.int .i64 (.ofNat 0)),(.int .i64 (.ofNat 3)),(.int .i64 (.ofNat 204)),(.int .i64 (.ofNat 205)),(.int .i64 (.ofNat 0)),(.int .i64 (.ofNat 1)),(.int .i64 (.ofNat 206)),(.int .i64 (.ofNat 209)),(.int .i64 (.ofNat 0)),(.int .i64 (.ofNat 3)),(.int .i64 (.ofNat 209)),(.int .i64 (.ofNat 210)),(.int .i64 (.ofNat 0)),(.int .i64 (.ofNat 1)),(.int .i64 (.ofNat 210)),(.int .i64 (.ofNat 211)),(.int .i64 (.ofNat 0)),(.int .i64 (.ofNat 3)),(.int .i64 (.ofNat 211)),(.int .i64 (.ofNat 212)),(.int .i64 (.ofNat 0)),(.int .i64 (.ofNat 1)),(.int .i64 (.ofNat 212)),(.int .i64 (.ofNat 213)),(.int .i64 (.ofNat 0)),(.int .i64 (.ofNat 3)),(.int .i64 (.ofNat 213)),(.int .i64 (.ofNat 214)),(.int .i64 (.ofNat 0)),(.int .i64 (.ofNat 3)),(.int .i64 (.ofNat 215)),(.int .i64 (.ofNat 216)),(.int .i64 (.ofNat 0)),(.int .i64 (.ofNat 2)),(.int .i64 (.ofNat 217)),(.int .i64 (.ofNat 218)),(.int .i64 (.ofNat 1)),(.int .i64 (.ofNat 3)),(.int .i64 (.ofNat 219)),(.int .i64 (.ofNat 220)),(.int .i64 (.ofNat 0)),(.int .i64 (.ofNat 1)),(.int .i64 (.ofNat 221)),(.int .i64 (.ofNat 222)),(.int .i64 (.ofNat 0)),(.int .i64 (.ofNat 3)),(.int .i64 (.ofNat 222)),(.int .i64 (.ofNat 223)),(.int .i64 (.ofNat 0)),(.int .i64 (.ofNat 3)),(.int .i64 (.ofNat 224)),(.int .i64 (.ofNat 226)),(.int .i64 (.ofNat 0)),(.int .i64 (.ofNat 1)),(.int .i64 (.ofNat 227)),(.int .i64 (.ofNat 228)),(.int .i64 (.ofNat 0)),(.int .i64 (.ofNat 3)),(.int .i64 (.ofNat 229)),(.int .i64 (.ofNat 231)),(.int .i64 (.ofNat 0)),(.int .i64 (.ofNat 1)),(.int .i64 (.ofNat 232)),(.int .i64 (.ofNat 237)),(.int .i64 (.ofNat 0)),(.int .i64 (.ofNat 3)),(.int .i64 (.ofNat 237)),(.int .i64 (.ofNat 238)),(.int .i64 (.ofNat 0)),(.int .i64 (.ofNat 1)),(.int .i64 (.ofNat 238)),(.int .i64 (.ofNat 239)),(.int .i64 (.ofNat 0)),(.int .i64 (.ofNat 3)),(.int .i64 (.ofNat 239)),(.int .i64 (.ofNat 240)),(.int .i64 (.ofNat 0)),(.int .i64 (.ofNat 1)),(.int .i64 (.ofNat 240)),(.int .i64 (.ofNat 241)),(.int .i64 (.ofNat 0)),(.int .i64 (.ofNat 3)),(.int .i64 (.ofNat 242)),(.int .i64 (.ofNat 244)),(.int .i64 (.ofNat 0)),(.int .i64 (.ofNat 1)),(.int .i64 (.ofNat 245)),(.int .i64 (.ofNat 248)),(.int .i64 (.ofNat 0)),(.int .i64 (.ofNat 3)),(.int .i64 (.ofNat 248)),(.int .i64 (.ofNat 249)),(.int .i64 (.ofNat 0)),(.int .i64 (.ofNat 1)),(.int .i64 (.ofNat 249)),(.int .i64 (.ofNat 250)),(.int .i64 (.ofNat 0)),(.int .i64 (.ofNat 3)),(.int .i64 (.ofNat 250)),(.int .i64 (.ofNat 251)),(.int .i64 (.ofNat 0)),(.int .i64 (.ofNat 1)),(.int .i64 (.ofNat 251)),(.int .i64 (.ofNat 252)),(.int .i64 (.ofNat 0)),(.int .i64 (.ofNat 3)),(.int .i64 (.ofNat 252)),(.int .i64 (.ofNat 253)),(.int .i64 (.ofNat 0)),(.int .i64 (.ofNat 3)),(.int .i64 (.ofNat 253)),(.int .i64 (.ofNat 254)),(.int .i64 (.ofNat 0)),(.int .i64 (.ofNat 3)),(.int .i64 (.ofNat 254)),(.int .i64 (.ofNat 255)),(.int .i64 (.ofNat 0)),(.int .i64 (.ofNat 3)),(.int .i64 (.ofNat 258)),(.int .i64 (.ofNat 260)),(.int .i64 (.ofNat 0)),(.int .i64 (.ofNat 1)),(.int .i64 (.ofNat 261)),(.int .i64 (.ofNat 262)),(.int .i64 (.ofNat 0)),(.int .i64 (.ofNat 3)),(.int .i64 (.ofNat 263)),(.int .i64 (.ofNat 265)),(.int .i64 (.ofNat 0)),(.int .i64 (.ofNat 3)),(.int .i64 (.ofNat 266)),(.int .i64 (.ofNat 267)),(.int .i64 (.ofNat 0)),(.int .i64 (.ofNat 1)),(.int .i64 (.ofNat 267)),(.int .i64 (.ofNat 270)),(.int .i64 (.ofNat 0)),(.int .i64 (.ofNat 3)),(.int .i64 (.ofNat 270)),(.int .i64 (.ofNat 271)),(.int .i64 (.ofNat 0)),(.int .i64 (.ofNat 1)),(.int .i64 (.ofNat 271)),(.int .i64 (.ofNat 272)),(.int .i64 (.ofNat 0)),(.int .i64 (.ofNat 3)),(.int .i64 (.ofNat 272)),(.int .i64 (.ofNat 273)),(.int .i64 (.ofNat 0)),(.int .i64 (.ofNat 1)),(.int .i64 (.ofNat 273)),(.int .i64 (.ofNat 274)),(.int .i64 (.ofNat 0)),(.int .i64 (.ofNat 3)),(.int .i64 (.ofNat 274)),(.int .i64 (.ofNat 275)),(.int .i64 (.ofNat 0)),(.int .i64 (.ofNat 3)),(.int .i64 (.ofNat 276)),(.int .i64 (.ofNat 277)),(.int .i64 (.ofNat 0)),(.int .i64 (.ofNat 1)),(.int .i64 (.ofNat 278)),(.int .i64 (.ofNat 279)),(.int .i64 (.ofNat 0)),(.int .i64 (.ofNat 3)),(.int .i64 (.ofNat 280)),(.int .i64 (.ofNat 281)),(.int .i64 (.ofNat 0)),(.int .i64 (.ofNat 1)),(.int .i64 (.ofNat 282)),(.int .i64 (.ofNat 285)),(.int .i64 (.ofNat 0)),(.int .i64 (.ofNat 3)),(.int .i64 (.ofNat 285)),(.int .i64 (.ofNat 286)),(.int .i64 (.ofNat 0)),(.int .i64 (.ofNat 1)),(.int .i64 (.ofNat 286)),(.int .i64 (.ofNat 287)),(.int .i64 (.ofNat 0)),(.int .i64 (.ofNat 3)),(.int .i64 (.ofNat 287)),(.int .i64 (.ofNat 288)),(.int .i64 (.ofNat 0)),(.int .i64 (.ofNat 1)),(.int .i64 (.ofNat 288)),(.int .i64 (.ofNat 289)),(.int .i64 (.ofNat 0)),(.int .i64 (.ofNat 3)),(.int .i64 (.ofNat 289)),(.int .i64 (.ofNat 290)),(.int .i64 (.ofNat 0)),(.int .i64 (.ofNat 3)),(.int .i64 (.ofNat 291)),(.int .i64 (.ofNat 292)),(.int .i64 (.ofNat 0)),(.int .i64 (.ofNat 2)),(.int .i64 (.ofNat 293)),(.int .i64 (.ofNat 294)),(.int .i64 (.ofNat 1)),(.int .i64 (.ofNat 3)),(.int .i64 (.ofNat 295)),(.int .i64 (.ofNat 296)),(.int .i64 (.ofNat 0)),(.int .i64 (.ofNat 1)),(.int .i64 (.ofNat 297)),(.int .i64 (.ofNat 298)),(.int .i64 (.ofNat 0)),(.int .i64 (.ofNat 3)),(.int .i64 (.ofNat 298)),(.int .i64 (.ofNat 299)),(.int .i64 (.ofNat 0)),(.int .i64 (.ofNat 3)),(.int .i64 (.ofNat 299)),(.int .i64 (.ofNat 300)),(.int .i64 (.ofNat 0)),(.int .i64 (.ofNat 1)),(.int .i64 (.ofNat 301)),(.int .i64 (.ofNat 302)),(.int .i64 (.ofNat 0)),(.int .i64 (.ofNat 3)),(.int .i64 (.ofNat 303)),(.int .i64 (.ofNat 305)),(.int .i64 (.ofNat 0)),(.int .i64 (.ofNat 1)),(.int .i64 (.ofNat 306)),(.int .i64 (.ofNat 311)),(.int .i64 (.ofNat 0)),(.int .i64 (.ofNat 3)),(.int .i64 (.ofNat 311)),(.int .i64 (.ofNat 312)),(.int .i64 (.ofNat 0)),(.int .i64 (.ofNat 1)),(.int .i64 (.ofNat 312)),(.int .i64 (.ofNat 313)),(.int .i64 (.ofNat 0)),(.int .i64 (.ofNat 3)),(.int .i64 (.ofNat 313)),(.int .i64 (.ofNat 314)),(.int .i64 (.ofNat 0)),(.int .i64 (.ofNat 1)),(.int .i64 (.ofNat 314)),(.int .i64 (.ofNat 315)),(.int .i64 (.ofNat 0)),(.int .i64 (.ofNat 3)),(.int .i64 (.ofNat 316)),(.int .i64 (.ofNat 318)),(.int .i64 (.ofNat 0)),(.int .i64 (.ofNat 1)),(.int .i64 (.ofNat 319)),(.int .i64 (.ofNat 322)),(.int .i64 (.ofNat 0)),(.int .i64 (.ofNat 3)),(.int .i64 (.ofNat 322)),(.int .i64 (.ofNat 323)),(.int .i64 (.ofNat 0)),(.int .i64 (.ofNat 1)),(.int .i64 (.ofNat 323)),(.int .i64 (.ofNat 324)),(.int .i64 (.ofNat 0)),(.int .i64 (.ofNat 3)),(.int .i64 (.ofNat 324)),(.int .i64 (.ofNat 325)),(.int .i64 (.ofNat 0)),(.int .i64 (.ofNat 1)),(.int .i64 (.ofNat 325)),(.int .i64 (.ofNat 326)),(.int .i64 (.ofNat 0)),(.int .i64 (.ofNat 3)),(.int .i64 (.ofNat 326)),(.int .i64 (.ofNat 327)),(.int .i64 (.ofNat 0)),(.int .i64 (.ofNat 3)),(.int .i64 (.ofNat 327)),(.int .i64 (.ofNat 328)),(.int .i64 (.ofNat 0)),(.int .i64 (.ofNat 3)),(.int .i64 (.ofNat 328)),(.int .i64 (.ofNat 329)),(.int .i64 (.ofNat 0)),(.int .i64 (.ofNat 1)),(.int .i64 (.ofNat 330)),(.int .i64 (.ofNat 334)),(.int .i64 (.ofNat 0)),(.int .i64 (.ofNat 1)),(.int .i64 (.ofNat 335)),(.int .i64 (.ofNat 340)),(.int .i64 (.ofNat 0)),(.int .i64 (.ofNat 3)),(.int .i64 (.ofNat 340)),(.int .i64 (.ofNat 341)),(.int .i64 (.ofNat 0)),(.int .i64 (.ofNat 1)),(.int .i64 (.ofNat 342)),(.int .i64 (.ofNat 346)),(.int .i64 (.ofNat 0)),(.int .i64 (.ofNat 3)),(.int .i64 (.ofNat 347)),(.int .i64 (.ofNat 349)),(.int .i64 (.ofNat 0)),(.int .i64 (.ofNat 3)),(.int .i64 (.ofNat 350)),(.int .i64 (.ofNat 351)),(.int .i64 (.ofNat 0)),(.int .i64 (.ofNat 1)),(.int .i64 (.ofNat 351)),(.int .i64 (.ofNat 352)),(.int .i64 (.ofNat 0)),(.int .i64 (.ofNat 3)),(.int .i64 (.ofNat 353)),(.int .i64 (.ofNat 355)),(.int .i64 (.ofNat 0)),(.int .i64 (.ofNat 1)),(.int .i64 (.ofNat 356)),(.int .i64 (.ofNat 357)),(.int .i64 (.ofNat 0)),(.int .i64 (.ofNat 3)),(.int .i64 (.ofNat 358)),(.int .i64 (.ofNat 360)),(.int .i64 (.ofNat 0)),(.int .i64 (.ofNat 1)),(.int .i64 (.ofNat 361)),(.int .i64 (.ofNat 362)),(.int .i64 (.ofNat 0)),(.int .i64 (.ofNat 3)),(.int .i64 (.ofNat 363)),(.int .i64 (.ofNat 365)),(.int .i64 (.ofNat 0)),(.int .i64 (.ofNat 1)),(.int .i64 (.ofNat 366)),(.int .i64 (.ofNat 370)),(.int .i64 (.ofNat 0)),(.int .i64 (.ofNat 3)),(.int .i64 (.ofNat 370)),(.int .i64 (.ofNat 371)),(.int .i64 (.ofNat 0)),(.int .i64 (.ofNat 1)),(.int .i64 (.ofNat 372)),(.int .i64 (.ofNat 373)),(.int .i64 (.ofNat 0)),(.int .i64 (.ofNat 3)),(.int .i64 (.ofNat 374)),(.int .i64 (.ofNat 376)),(.int .i64 (.ofNat 0)),(.int .i64 (.ofNat 3)),(.int .i64 (.ofNat 377)),(.int .i64 (.ofNat 378)),(.int .i64 (.ofNat 0)),(.int .i64 (.ofNat 1)),(.int .i64 (.ofNat 378)),(.int .i64 (.ofNat 379)),(.int .i64 (.ofNat 0)),(.int .i64 (.ofNat 3)),(.int .i64 (.ofNat 379)),(.int .i64 (.ofNat 380)),(.int .i64 (.ofNat 0)),(.int .i64 (.ofNat 1)),(.int .i64 (.ofNat 381)),(.int .i64 (.ofNat 382)),(.int .i64 (.ofNat 0)),(.int .i64 (.ofNat 3)),(.int .i64 (.ofNat 383)),(.int .i64 (.ofNat 385)),(.int .i64 (.ofNat 0)),(.int .i64 (.ofNat 2)),(.int .i64 (.ofNat 386)),(.int .i64 (.ofNat 387)),(.int .i64 (.ofNat 0)),(.int .i64 (.ofNat 3)),(.int .i64 (.ofNat 387)),(.int .i64 (.ofNat 388)),(.int .i64 (.ofNat 0)),(.int .i64 (.ofNat 1)),(.int .i64 (.ofNat 389)),(.int .i64 (.ofNat 390)),(.int .i64 (.ofNat 0)),(.int .i64 (.ofNat 3)),(.int .i64 (.ofNat 391)),(.int .i64 (.ofNat 393)),(.int .i64 (.ofNat 0)),(.int .i64 (.ofNat 1)),(.int .i64 (.ofNat 394)),(.int .i64 (.ofNat 399)),(.int .i64 (.ofNat 0)),(.int .i64 (.ofNat 3)),(.int .i64 (.ofNat 399)),(.int .i64 (.ofNat 400)),(.int .i64 (.ofNat 0)),(.int .i64 (.ofNat 1)),(.int .i64 (.ofNat 401)),(.int .i64 (.ofNat 405)),(.int .i64 (.ofNat 0)),(.int .i64 (.ofNat 1)),(.int .i64 (.ofNat 406)),(.int .i64 (.ofNat 410)),(.int .i64 (.ofNat 0)),(.int .i64 (.ofNat 3)),(.int .i64 (.ofNat 410)),(.int .i64 (.ofNat 411)),(.int .i64 (.ofNat 0)),(.int .i64 (.ofNat 3)),(.int .i64 (.ofNat 412)),(.int .i64 (.ofNat 413)),(.int .i64 (.ofNat 0)),(.int .i64 (.ofNat 1)),(.int .i64 (.ofNat 413)),(.int .i64 (.ofNat 417)),(.int .i64 (.ofNat 0)),(.int .i64 (.ofNat 3)),(.int .i64 (.ofNat 418)),(.int .i64 (.ofNat 420)),(.int .i64 (.ofNat 0)),(.int .i64 (.ofNat 1)),(.int .i64 (.ofNat 421)),(.int .i64 (.ofNat 425)),(.int .i64 (.ofNat 0)),(.int .i64 (.ofNat 3)),(.int .i64 (.ofNat 425)),(.int .i64 (.ofNat 426)),(.int .i64 (.ofNat 0)),(.int .i64 (.ofNat 1)),(.int .i64 (.ofNat 426)),(.int .i64 (.ofNat 427)),(.int .i64 (.ofNat 0)),(.int .i64 (.ofNat 3)),(.int .i64 (.ofNat 428)),(.int .i64 (.ofNat 430)),(.int .i64 (.ofNat 0)),(.int .i64 (.ofNat 1)),(.int .i64 (.ofNat 431)),(.int .i64 (.ofNat 432)),(.int .i64 (.ofNat 0)),(.int .i64 (.ofNat 3)),(.int .i64 (.ofNat 433)),(.int .i64 (.ofNat 435)),(.int .i64 (.ofNat 0)),(.int .i64 (.ofNat 3)),(.int .i64 (.ofNat 436)),(.int .i64 (.ofNat 437)),(.int .i64 (.ofNat 0)),(.int .i64 (.ofNat 1)),(.int .i64 (.ofNat 437)),(.int .i64 (.ofNat 438)),(.int .i64 (.ofNat 0)),(.int .i64 (.ofNat 3)),(.int .i64 (.ofNat 438)),(.int .i64 (.ofNat 439)),(.int .i64 (.ofNat 0)),(.int .i64 (.ofNat 1)),(.int .i64 (.ofNat 439)),(.int .i64 (.ofNat 440)),(.int .i64 (.ofNat 0)),(.int .i64 (.ofNat 3)),(.int .i64 (.ofNat 441)),(.int .i64 (.ofNat 443)),(.int .i64 (.ofNat 0)),(.int .i64 (.ofNat 1)),(.int .i64 (.ofNat 444)),(.int .i64 (.ofNat 445)),(.int .i64 (.ofNat 0)),(.int .i64 (.ofNat 3)),(.int .i64 (.ofNat 446)),(.int .i64 (.ofNat 448)),(.int .i64 (.ofNat 0)),(.int .i64 (.ofNat 1)),(.int .i64 (.ofNat 449)),(.int .i64 (.ofNat 450)),(.int .i64 (.ofNat 0)),(.int .i64 (.ofNat 3)),(.int .i64 (.ofNat 451)),(.int .i64 (.ofNat 453)),(.int .i64 (.ofNat 0)),(.int .i64 (.ofNat 3)),(.int .i64 (.ofNat 454)),(.int .i64 (.ofNat 455)),(.int .i64 (.ofNat 0)),(.int .i64 (.ofNat 1)),(.int .i64 (.ofNat 455)),(.int .i64 (.ofNat 456)),(.int .i64 (.ofNat 0)),(.int .i64 (.ofNat 3)),(.int .i64 (.ofNat 456)),(.int .i64 (.ofNat 457)),(.int .i64 (.ofNat 0)),(.int .i64 (.ofNat 1)),(.int .i64 (.ofNat 457)),(.int .i64 (.ofNat 458)),(.int .i64 (.ofNat 0)),(.int .i64 (.ofNat 3)),(.int .i64 (.ofNat 458)),(.int .i64 (.ofNat 459)),(.int .i64 (.ofNat 0)),(.int .i64 (.ofNat 3)),(.int .i64 (.ofNat 459)),(.int .i64 (.ofNat 460)),(.int .i64 (.ofNat 0)),(.int .i64 (.ofNat 3)),(.int .i64 (.ofNat 461)),(.int .i64 (.ofNat 463)),(.int .i64 (.ofNat 0)),(.int .i64 (.ofNat 1)),(.int .i64 (.ofNat 464)),(.int .i64 (.ofNat 465)),(.int .i64 (.ofNat 0)),(.int .i64 (.ofNat 3)),(.int .i64 (.ofNat 466)),(.int .i64 (.ofNat 468)),(.int .i64 (.ofNat 0)),(.int .i64 (.ofNat 1)),(.int .i64 (.ofNat 469)),(.int .i64 (.ofNat 473)),(.int .i64 (.ofNat 0)),(.int .i64 (.ofNat 3)),(.int .i64 (.ofNat 473)),(.int .i64 (.ofNat 474)),(.int .i64 (.ofNat 0)),(.int .i64 (.ofNat 1)),(.int .i64 (.ofNat 474)),(.int .i64 (.ofNat 475)),(.int .i64 (.ofNat 0)),(.int .i64 (.ofNat 3)),(.int .i64 (.ofNat 476)),(.int .i64 (.ofNat 478)),(.int .i64 (.ofNat 0)),(.int .i64 (.ofNat 1)),(.int .i64 (.ofNat 479)),(.int .i64 (.ofNat 480)),(.int .i64 (.ofNat 0)),(.int .i64 (.ofNat 3)),(.int .i64 (.ofNat 481)),(.int .i64 (.ofNat 483)),(.int .i64 (.ofNat 0)),(.int .i64 (.ofNat 1)),(.int .i64 (.ofNat 484)),(.int .i64 (.ofNat 485)),(.int .i64 (.ofNat 0)),(.int .i64 (.ofNat 3)),(.int .i64 (.ofNat 485)),(.int .i64 (.ofNat 486)),(.int .i64 (.ofNat 0)),(.int .i64 (.ofNat 1)),(.int .i64 (.ofNat 486)),(.int .i64 (.ofNat 487)),(.int .i64 (.ofNat 0)),(.int .i64 (.ofNat 3)),(.int .i64 (.ofNat 487)),(.int .i64 (.ofNat 488)),(.int .i64 (.ofNat 0)),(.int .i64 (.ofNat 3)),(.int .i64 (.ofNat 488)),(.int .i64 (.ofNat 489)),(.int .i64 (.ofNat 0)),(.int .i64 (.ofNat 1)),(.int .i64 (.ofNat 490)),(.int .i64 (.ofNat 491)),(.int .i64 (.ofNat 0)),(.int .i64 (.ofNat 3)),(.int .i64 (.ofNat 492)),(.int .i64 (.ofNat 494)),(.int .i64 (.ofNat 0)),(.int .i64 (.ofNat 1)),(.int .i64 (.ofNat 495)),(.int .i64 (.ofNat 499)),(.int .i64 (.ofNat 0)),(.int .i64 (.ofNat 3)),(.int .i64 (.ofNat 499)),(.int .i64 (.ofNat 500)),(.int .i64 (.ofNat 0)),(.int .i64 (.ofNat 1)),(.int .i64 (.ofNat 500)),(.int .i64 (.ofNat 501)),(.int .i64 (.ofNat 0)),(.int .i64 (.ofNat 3)),(.int .i64 (.ofNat 502)),(.int .i64 (.ofNat 504)),(.int .i64 (.ofNat 0)),(.int .i64 (.ofNat 1)),(.int .i64 (.ofNat 505)),(.int .i64 (.ofNat 506)),(.int .i64 (.ofNat 0)),(.int .i64 (.ofNat 3)),(.int .i64 (.ofNat 507)),(.int .i64 (.ofNat 509)),(.int .i64 (.ofNat 0)),(.int .i64 (.ofNat 1)),(.int .i64 (.ofNat 510)),(.int .i64 (.ofNat 511)),(.int .i64 (.ofNat 0)),(.int .i64 (.ofNat 3)),(.int .i64 (.ofNat 511)),(.int .i64 (.ofNat 512)),(.int .i64 (.ofNat 0)),(.int .i64 (.ofNat 1)),(.int .i64 (.ofNat 512)),(.int .i64 (.ofNat 513)),(.int .i64 (.ofNat 0)),(.int .i64 (.ofNat 3)),(.int .i64 (.ofNat 513)),(.int .i64 (.ofNat 514)),(.int .i64 (.ofNat 0)),(.int .i64 (.ofNat 3)),(.int .i64 (.ofNat 514)),(.int .i64 (.ofNat 515)),(.int .i64 (.ofNat 0)),(.int .i64 (.ofNat 1)),(.int .i64 (.ofNat 516)),(.int .i64 (.ofNat 517)),(.int .i64 (.ofNat 0)),(.int .i64 (.ofNat 3)),(.int .i64 (.ofNat 518)),(.int .i64 (.ofNat 520)),(.int .i64 (.ofNat 0)),(.int .i64 (.ofNat 2)),(.int .i64 (.ofNat 521)),(.int .i64 (.ofNat 522)),(.int .i64 (.ofNat 0)),(.int .i64 (.ofNat 3)),(.int .i64 (.ofNat 522)),(.int .i64 (.ofNat 523)),(.int .i64 (.ofNat 0)),(.int .i64 (.ofNat 1)),(.int .i64 (.ofNat 524)),(.int .i64 (.ofNat 525)),(.int .i64 (.ofNat 0)),(.int .i64 (.ofNat 3)),(.int .i64 (.ofNat 526)),(.int .i64 (.ofNat 528)),(.int .i64 (.ofNat 0)),(.int .i64 (.ofNat 1)),(.int .i64 (.ofNat 529)),(.int .i64 (.ofNat 534)),(.int .i64 (.ofNat 0)),(.int .i64 (.ofNat 3)),(.int .i64 (.ofNat 534)),(.int .i64 (.ofNat 535)),(.int .i64 (.ofNat 0)),(.int .i64 (.ofNat 1)),(.int .i64 (.ofNat 536)),(.int .i64 (.ofNat 540)),(.int .i64 (.ofNat 0)),(.int .i64 (.ofNat 1)),(.int .i64 (.ofNat 541)),(.int .i64 (.ofNat 547)),(.int .i64 (.ofNat 0)),(.int .i64 (.ofNat 3)),(.int .i64 (.ofNat 547)),(.int .i64 (.ofNat 548)),(.int .i64 (.ofNat 0)),(.int .i64 (.ofNat 1)),(.int .i64 (.ofNat 549)),(.int .i64 (.ofNat 550)),(.int .i64 (.ofNat 0)),(.int .i64 (.ofNat 3)),(.int .i64 (.ofNat 551)),(.int .i64 (.ofNat 553)),(.int .i64 (.ofNat 0)),(.int .i64 (.ofNat 1)),(.int .i64 (.ofNat 554)),(.int .i64 (.ofNat 557)),(.int .i64 (.ofNat 0)),(.int .i64 (.ofNat 3)),(.int .i64 (.ofNat 557)),(.int .i64 (.ofNat 558)),(.int .i64 (.ofNat 0)),(.int .i64 (.ofNat 1)),(.int .i64 (.ofNat 558)),(.int .i64 (.ofNat 559)),(.int .i64 (.ofNat 0)),(.int .i64 (.ofNat 3)),(.int .i64 (.ofNat 559)),(.int .i64 (.ofNat 560)),(.int .i64 (.ofNat 0)),(.int .i64 (.ofNat 1)),(.int .i64 (.ofNat 560)),(.int .i64 (.ofNat 561)),(.int .i64 (.ofNat 0)),(.int .i64 (.ofNat 3)),(.int .i64 (.ofNat 562)),(.int .i64 (.ofNat 564)),(.int .i64 (.ofNat 0)),(.int .i64 (.ofNat 1)),(.int .i64 (.ofNat 565)),(.int .i64 (.ofNat 566)),(.int .i64 (.ofNat 0)),(.int .i64 (.ofNat 3)),(.int .i64 (.ofNat 566)),(.int .i64 (.ofNat 567)),(.int .i64 (.ofNat 0)),(.int .i64 (.ofNat 1)),(.int .i64 (.ofNat 567)),(.int .i64 (.ofNat 571)),(.int .i64 (.ofNat 0)),(.int .i64 (.ofNat 3)),(.int .i64 (.ofNat 572)),(.int .i64 (.ofNat 574)),(.int .i64 (.ofNat 0)),(.int .i64 (.ofNat 3)),(.int .i64 (.ofNat 575)),(.int .i64 (.ofNat 576)),(.int .i64 (.ofNat 0)),(.int .i64 (.ofNat 1)),(.int .i64 (.ofNat 576)),(.int .i64 (.ofNat 577)),(.int .i64 (.ofNat 0)),(.int .i64 (.ofNat 3)),(.int .i64 (.ofNat 577)),(.int .i64 (.ofNat 578)),(.int .i64 (.ofNat 0)),(.int .i64 (.ofNat 1)),(.int .i64 (.ofNat 578)),(.int .i64 (.ofNat 579)),(.int .i64 (.ofNat 0)),(.int .i64 (.ofNat 3)),(.int .i64 (.ofNat 580)),(.int .i64 (.ofNat 582)),(.int .i64 (.ofNat 0)),(.int .i64 (.ofNat 1)),(.int .i64 (.ofNat 583)),(.int .i64 (.ofNat 584)),(.int .i64 (.ofNat 0)),(.int .i64 (.ofNat 3)),(.int .i64 (.ofNat 584)),(.int .i64 (.ofNat 585)),(.int .i64 (.ofNat 0)),(.int .i64 (.ofNat 1)),(.int .i64 (.ofNat 585)),(.int .i64 (.ofNat 586)),(.int .i64 (.ofNat 0)),(.int .i64 (.ofNat 3)),(.int .i64 (.ofNat 587)),(.int .i64 (.ofNat 589)),(.int .i64 (.ofNat 0)),(.int .i64 (.ofNat 1)),(.int .i64 (.ofNat 590)),(.int .i64 (.ofNat 591)),(.int .i64 (.ofNat 0)),(.int .i64 (.ofNat 3)),(.int .i64 (.ofNat 591)),(.int .i64 (.ofNat 592)),(.int .i64 (.ofNat 0)),(.int .i64 (.ofNat 3)),(.int .i64 (.ofNat 593)),(.int .i64 (.ofNat 595)),(.int .i64 (.ofNat 0)),(.int .i64 (.ofNat 1)),(.int .i64 (.ofNat 596)),(.int .i64 (.ofNat 597)),(.int .i64 (.ofNat 0)),(.int .i64 (.ofNat 3)),(.int .i64 (.ofNat 598)),(.int .i64 (.ofNat 600)),(.int .i64 (.ofNat 0)),(.int .i64 (.ofNat 1)),(.int .i64 (.ofNat 601)),(.int .i64 (.ofNat 606)),(.int .i64 (.ofNat 0)),(.int .i64 (.ofNat 3)),(.int .i64 (.ofNat 606)),(.int .i64 (.ofNat 607)),(.int .i64 (.ofNat 0)),(.int .i64 (.ofNat 1)),(.int .i64 (.ofNat 608)),(.int .i64 (.ofNat 612)),(.int .i64 (.ofNat 0)),(.int .i64 (.ofNat 1)),(.int .i64 (.ofNat 613)),(.int .i64 (.ofNat 616)),(.int .i64 (.ofNat 0)),(.int .i64 (.ofNat 3)),(.int .i64 (.ofNat 616)),(.int .i64 (.ofNat 617)),(.int .i64 (.ofNat 0)),(.int .i64 (.ofNat 3)),(.int .i64 (.ofNat 618)),(.int .i64 (.ofNat 619)),(.int .i64 (.ofNat 0)),(.int .i64 (.ofNat 1)),(.int .i64 (.ofNat 619)),(.int .i64 (.ofNat 620)),(.int .i64 (.ofNat 0)),(.int .i64 (.ofNat 3)),(.int .i64 (.ofNat 621)),(.int .i64 (.ofNat 623)),(.int .i64 (.ofNat 0)),(.int .i64 (.ofNat 3)),(.int .i64 (.ofNat 624)),(.int .i64 (.ofNat 625)),(.int .i64 (.ofNat 0)),(.int .i64 (.ofNat 1)),(.int .i64 (.ofNat 625)),(.int .i64 (.ofNat 626)),(.int .i64 (.ofNat 0)),(.int .i64 (.ofNat 3)),(.int .i64 (.ofNat 627)),(.int .i64 (.ofNat 629)),(.int .i64 (.ofNat 0)),(.int .i64 (.ofNat 1)),(.int .i64 (.ofNat 630)),(.int .i64 (.ofNat 634)),(.int .i64 (.ofNat 0)),(.int .i64 (.ofNat 3)),(.int .i64 (.ofNat 634)),(.int .i64 (.ofNat 635)),(.int .i64 (.ofNat 0)),(.int .i64 (.ofNat 1)),(.int .i64 (.ofNat 635)),(.int .i64 (.ofNat 636)),(.int .i64 (.ofNat 0)),(.int .i64 (.ofNat 3)),(.int .i64 (.ofNat 636)),(.int .i64 (.ofNat 637)),(.int .i64 (.ofNat 0)),(.int .i64 (.ofNat 1)),(.int .i64 (.ofNat 637)),(.int .i64 (.ofNat 638)),(.int .i64 (.ofNat 0)),(.int .i64 (.ofNat 3)),(.int .i64 (.ofNat 639)),(.int .i64 (.ofNat 641)),(.int .i64 (.ofNat 0)),(.int .i64 (.ofNat 1)),(.int .i64 (.ofNat 642)),(.int .i64 (.ofNat 643)),(.int .i64 (.ofNat 0)),(.int .i64 (.ofNat 3)),(.int .i64 (.ofNat 643)),(.int .i64 (.ofNat 644)),(.int .i64 (.ofNat 0)),(.int .i64 (.ofNat 1)),(.int .i64 (.ofNat 644)),(.int .i64 (.ofNat 648)),(.int .i64 (.ofNat 0)),(.int .i64 (.ofNat 3)),(.int .i64 (.ofNat 649)),(.int .i64 (.ofNat 651)),(.int .i64 (.ofNat 0)),(.int .i64 (.ofNat 1)),(.int .i64 (.ofNat 652)),(.int .i64 (.ofNat 653)),(.int .i64 (.ofNat 0)),(.int .i64 (.ofNat 3)),(.int .i64 (.ofNat 653)),(.int .i64 (.ofNat 654)),(.int .i64 (.ofNat 0)),(.int .i64 (.ofNat 1)),(.int .i64 (.ofNat 654)),(.int .i64 (.ofNat 655)),(.int .i64 (.ofNat 0)),(.int .i64 (.ofNat 3)),(.int .i64 (.ofNat 656)),(.int .i64 (.ofNat 658)),(.int .i64 (.ofNat 0)),(.int .i64 (.ofNat 3)),(.int .i64 (.ofNat 659)),(.int .i64 (.ofNat 660)),(.int .i64 (.ofNat 0)),(.int .i64 (.ofNat 1)),(.int .i64 (.ofNat 660)),(.int .i64 (.ofNat 661)),(.int .i64 (.ofNat 0)),(.int .i64 (.ofNat 3)),(.int .i64 (.ofNat 661)),(.int .i64 (.ofNat 662)),(.int .i64 (.ofNat 0)),(.int .i64 (.ofNat 1)),(.int .i64 (.ofNat 662)),(.int .i64 (.ofNat 663)),(.int .i64 (.ofNat 0)),(.int .i64 (.ofNat 3)),(.int .i64 (.ofNat 663)),(.int .i64 (.ofNat 664)),(.int .i64 (.ofNat 0)),(.int .i64 (.ofNat 3)),(.int .i64 (.ofNat 665)),(.int .i64 (.ofNat 667)),(.int .i64 (.ofNat 0)),(.int .i64 (.ofNat 1)),(.int .i64 (.ofNat 668)),(.int .i64 (.ofNat 669)),(.int .i64 (.ofNat 0)),(.int .i64 (.ofNat 3)),(.int .i64 (.ofNat 670)),(.int .i64 (.ofNat 672)),(.int .i64 (.ofNat 0)),(.int .i64 (.ofNat 1)),(.int .i64 (.ofNat 673)),(.int .i64 (.ofNat 677)),(.int .i64 (.ofNat 0)),(.int .i64 (.ofNat 3)),(.int .i64 (.ofNat 677)),(.int .i64 (.ofNat 678)),(.int .i64 (.ofNat 0))])]
set_option maxHeartbeats 4000000 in
theorem me0:memoR rtab gp 4000 94 mu0 [2567]=some (mg0,2568,mo0):=by kernel_rfl
noncomputable def gextm1 (f:Nat) (us:List GV) (H:GH):Option (GV×GH):=bif Nat.beq f 94 then(bif isS us (62612022078668281795505554093363622559854195865949253215105900396045672359969877880166549174032343132993734957765569202214538907514566311350427701009544032694847337705793280154083690688451269616688782133795410379376928705130345296445151552924450334836917827234573469831105668184247309683323748037249326305257450566500613104582596739355858495108587194514699348039550352061107652063950585699432193800786308390540153052463342825471615451497403378237530695269756800903089344746135921082798862585170912282432061314226997690214573863871773160495090950365393003392302336199511227963345777762340303723847551010267882950244475187531638497589816884840746003832656122559568072415127281877587919955134951848720898362784721630179183632514071187737718801766045181382178059597531935953865739058317213402067112106178269539818406468794623567714368406699984352401615611648009540554670638379077003046691601651659503488023036016650041344236444492625067110609540290467946795853434537583557082408411183186533670519462632865144031819183310381452310956185194634675703732849182713820334837695243446565596654286740386031565011357996399800921820918955437335624617843094112596863701508946442457135114386851122925397296113071978999231011209672540734656076492347048890983156526043032785285927167596865683405763291449118335047510792439178363711784660496025932951555546329846668545661249500619781993860494368395467151808107769959479474456951167188694307489519361853029722953071634727739222067984252267479508130870821814111526873691367656719627636282162632229619012164283959600299915921951610829461135327475232013270964287406921117221047932843602716792612622967992944,679)then memoK mg0 2568 mo0 H else gext f us H)else gext f us H
noncomputable def gpm1:GP:=⟨tyTab,gp.cat,gextm1,gp.exn⟩
theorem gextm1_ok {T:Nat} {w0:Base (gl T)} {w:World} {ρ:Rho} {H H':GH} {g:GV} {us:List GV} {vs:List Value} {f:Nat} (h:gextm1 f us H=some (g,H')) (R:Rel w0 ρ H w) (hr:RlL ρ us vs):CallSem Tryz.prog w0 ρ f vs w g H':=by
 unfold gextm1 at h
 cases e1:Nat.beq f 94 with
 |false=>rw[e1]at h;exact gext_ok h R hr
 | true =>
  rw[e1]at h
  cases e2:isS us (62612022078668281795505554093363622559854195865949253215105900396045672359969877880166549174032343132993734957765569202214538907514566311350427701009544032694847337705793280154083690688451269616688782133795410379376928705130345296445151552924450334836917827234573469831105668184247309683323748037249326305257450566500613104582596739355858495108587194514699348039550352061107652063950585699432193800786308390540153052463342825471615451497403378237530695269756800903089344746135921082798862585170912282432061314226997690214573863871773160495090950365393003392302336199511227963345777762340303723847551010267882950244475187531638497589816884840746003832656122559568072415127281877587919955134951848720898362784721630179183632514071187737718801766045181382178059597531935953865739058317213402067112106178269539818406468794623567714368406699984352401615611648009540554670638379077003046691601651659503488023036016650041344236444492625067110609540290467946795853434537583557082408411183186533670519462632865144031819183310381452310956185194634675703732849182713820334837695243446565596654286740386031565011357996399800921820918955437335624617843094112596863701508946442457135114386851122925397296113071978999231011209672540734656076492347048890983156526043032785285927167596865683405763291449118335047510792439178363711784660496025932951555546329846668545661249500619781993860494368395467151808107769959479474456951167188694307489519361853029722953071634727739222067984252267479508130870821814111526873691367656719627636282162632229619012164283959600299915921951610829461135327475232013270964287406921117221047932843602716792612622967992944,679)with
  |false=>rw[e2]at h;exact gext_ok h R hr
  |true=>
   rw[e2]at h;rw[Nat.eq_of_beq_eq_true e1]
   rw[isS_eq e2]at hr
   obtain⟨V,rfl,hv⟩:=hr.one
   obtain⟨x,rfl,e3,e4⟩:=hv.str_inv
   exact memo_ok (gs:=gl T) rtab_ok gok me0 Tryz.call94 (RlL.cons (rl_str e3 e4) .nil) h R
theorem gokm1 {T:Nat} (w0:Base (gl T)):GOk Tryz.prog gpm1 rtab.fns w0:=⟨(gok w0).tab,(gok w0).mixed,(gok w0).fns,fun h ρ w vs R hr=>gextm1_ok h R hr,(gok w0).exn,(gok w0).cat⟩
def mu1:List GV:=[.str 62612022078668281795505554093363622559854195865949253215105900396045672359969877880166549174032343132993734957765569202214538907514566311350427701009544032694847337705793280154083690688451269616688782133795410379376928705130345296445151552924450334836917827234573469831105668184247309683323748037249326305257450566500613104582596739355858495108587194514699348039550352061107652063950585699432193800786308390540153052463342825471615451497403378237530695269756800903089344746135921082798862585170912282432061314226997690214573863871773160495090950365393003392302336199511227963345777762340303723847551010267882950244475187531638497589816884840746003832656122559568072415127281877587919955134951848720898362784721630179183632514071187737718801766045181382178059597531935953865739058317213402067112106178269539818406468794623567714368406699984352401615611648009540554670638379077003046691601651659503488023036016650041344236444492625067110609540290467946795853434537583557082408411183186533670519462632865144031819183310381452310956185194634675703732849182713820334837695243446565596654286740386031565011357996399800921820918955437335624617843094112596863701508946442457135114386851122925397296113071978999231011209672540734656076492347048890983156526043032785285927167596865683405763291449118335047510792439178363711784660496025932951555546329846668545661249500619781993860494368395467151808107769959479474456951167188694307489519361853029722953071634727739222067984252267479508130870821814111526873691367656719627636282162632229619012164283959600299915921951610829461135327475232013270964287406921117221047932843602716792612622967992944 679]
def mg1:GV:=(.agg [(.str 499918267762 5),(.sl 2815 0 6 6),(.sl 4970 0 6 3)])
def mo1:OL:=[(2815,2815,.cells [(.str 100 1),(.int .i64 (.ofNat 1)),(.int .i64 (.ofNat 0)),(.int .i64 (.ofNat 0)),(.int .i64 (.ofNat 1)),(.int .i64 (.ofNat 0)),(.str 112 1),(.int .i64 (.ofNat 3)),(.int .i64 (.ofNat 0)),(.int .i64 (.ofNat 0)),(.int .i64 (.ofNat 0)),(.int .i64 (.ofNat 0)),(.str 115 1),(.int .i64 (.ofNat 2)),(.int .i64 (.ofNat 0)),(.int .i64 (.ofNat 0)),(.int .i64 (.ofNat 0)),(.int .i64 (.ofNat 0)),(.str 98 1),(.int .i64 (.ofNat 2)),(.int .i64 (.ofNat 0)),(.int .i64 (.ofNat 0)),(.int .i64 (.ofNat 0)),(.int .i64 (.ofNat 0)),(.str 121 1),(.int .i64 (.ofNat 1)),(.int .i64 (.ofNat 0)),(.int .i64 (.ofNat 3)),(.int .i64 (.ofNat 0)),(.int .i64 (.ofNat 0)),(.str 114 1),(.int .i64 (.ofNat 2)),(.int .i64 (.ofNat 0)),(.int .i64 (.ofNat 0)),(.int .i64 (.ofNat 0)),(.int .i64 (.ofNat 0))]),
 (2939,2939,.cells [(.int .i64 (.ofNat 41)),(.int .i64 (.ofNat 0)),(.int .i64 (.ofNat 10)),(.int .i64 (.ofNat 0)),(.int .i64 (.ofNat 42)),(.int .i64 (.ofNat 0)),(.int .i64 (.ofNat 36)),(.int .i64 (.ofNat 0)),(.int .i64 (.ofNat 5)),(.int .i64 (.ofNat 0)),(.int .i64 (.ofNat 1)),(.int .i64 (.ofNat 0)),(.int .i64 (.ofNat 36)),(.int .i64 (.ofNat 0)),(.int .i64 (.ofNat 5)),(.int .i64 (.ofNat 1)),(.int .i64 (.ofNat 4)),(.int .i64 (.ofNat 0))]),
 (2965,2965,.cells [(.int .i64 (.ofNat 1)),(.int .i64 (.ofNat 0))]),
 (2998,2998,.cells [(.int .i64 (.ofNat 4)),(.int .i64 (.ofNat 0))]),
 (3006,3006,.cells [(.int .i64 (.ofNat 0)),(.sl 2965 0 1 2),(.int .i64 (.ofNat 1)),(.sl 2998 0 1 2)]),
 (3394,3394,.cells [(.int .i64 (.ofNat 41)),(.int .i64 (.ofNat 0)),(.int .i64 (.ofNat 19)),(.int .i64 (.ofNat 0)),(.int .i64 (.ofNat 10)),(.int .i64 (.ofNat 0)),(.int .i64 (.ofNat 42)),(.int .i64 (.ofNat 0)),(.int .i64 (.ofNat 36)),(.int .i64 (.ofNat 0)),(.int .i64 (.ofNat 5)),(.int .i64 (.ofNat 0)),(.int .i64 (.ofNat 43)),(.int .i64 (.ofNat 0)),(.int .i64 (.ofNat 37)),(.int .i64 (.ofNat 0)),(.int .i64 (.ofNat 24)),(.int .i64 (.ofNat 0)),(.int .i64 (.ofNat 12)),(.int .i64 (.ofNat 0)),(.int .i64 (.ofNat 6)),(.int .i64 (.ofNat 0)),(.int .i64 (.ofNat 33)),(.int .i64 (.ofNat 0)),(.int .i64 (.ofNat 24)),(.int .i64 (.ofNat 0)),(.int .i64 (.ofNat 12)),(.int .i64 (.ofNat 0)),(.int .i64 (.ofNat 1)),(.int .i64 (.ofNat 1)),(.int .i64 (.ofNat 6)),(.int .i64 (.ofNat 0)),(.int .i64 (.ofNat 36)),(.int .i64 (.ofNat 0)),(.int .i64 (.ofNat 5)),(.int .i64 (.ofNat 1)),(.int .i64 (.ofNat 23)),(.int .i64 (.ofNat 0)),(.int .i64 (.ofNat 35)),(.int .i64 (.ofNat 0)),(.int .i64 (.ofNat 12)),(.int .i64 (.ofNat 0)),(.int .i64 (.ofNat 24)),(.int .i64 (.ofNat 0)),(.int .i64 (.ofNat 12)),(.int .i64 (.ofNat 0))]),
 (3575,3575,.cells [(.int .i64 (.ofNat 43)),(.int .i64 (.ofNat 0)),(.int .i64 (.ofNat 37)),(.int .i64 (.ofNat 0)),(.int .i64 (.ofNat 24)),(.int .i64 (.ofNat 0)),(.int .i64 (.ofNat 12)),(.int .i64 (.ofNat 0)),(.int .i64 (.ofNat 6)),(.int .i64 (.ofNat 0)),(.int .i64 (.ofNat 33)),(.int .i64 (.ofNat 0)),(.int .i64 (.ofNat 24)),(.int .i64 (.ofNat 0)),(.int .i64 (.ofNat 12)),(.int .i64 (.ofNat 0)),(.int .i64 (.ofNat 1)),(.int .i64 (.ofNat 1)),(.int .i64 (.ofNat 6)),(.int .i64 (.ofNat 0))]),
 (3701,3701,.cells [(.int .i64 (.ofNat 23)),(.int .i64 (.ofNat 0)),(.int .i64 (.ofNat 35)),(.int .i64 (.ofNat 0)),(.int .i64 (.ofNat 12)),(.int .i64 (.ofNat 0)),(.int .i64 (.ofNat 24)),(.int .i64 (.ofNat 0)),(.int .i64 (.ofNat 12)),(.int .i64 (.ofNat 0))]),
 (3709,3709,.cells [(.int .i64 (.ofNat 0)),(.sl 3575 0 10 2),(.int .i64 (.ofNat 1)),(.sl 3701 0 5 2)]),
 (3798,3798,.cells [(.int .i64 (.ofNat 41)),(.int .i64 (.ofNat 0)),(.int .i64 (.ofNat 41)),(.int .i64 (.ofNat 0)),(.int .i64 (.ofNat 10)),(.int .i64 (.ofNat 0)),(.int .i64 (.ofNat 19)),(.int .i64 (.ofNat 0)),(.int .i64 (.ofNat 5)),(.int .i64 (.ofNat 2)),(.int .i64 (.ofNat 5)),(.int .i64 (.ofNat 5))]),
 (3825,3825,.cells [(.int .i64 (.ofNat 2)),(.int .i64 (.ofNat 0))]),
 (3867,3867,.cells [(.int .i64 (.ofNat 19)),(.int .i64 (.ofNat 0)),(.int .i64 (.ofNat 5)),(.int .i64 (.ofNat 3))]),
 (3899,3899,.cells [(.int .i64 (.ofNat 1)),(.int .i64 (.ofNat 0))]),
 (3932,3932,.cells [(.int .i64 (.ofNat 3)),(.int .i64 (.ofNat 0))]),
 (3940,3940,.cells [(.int .i64 (.ofNat 2)),(.sl 3825 0 1 2),(.int .i64 (.ofNat 3)),(.sl 3867 0 2 2),(.int .i64 (.ofNat 4)),(.sl 3899 0 1 2),(.int .i64 (.ofNat 5)),(.sl 3932 0 1 2)]),
 (4174,4174,.cells [(.int .i64 (.ofNat 41)),(.int .i64 (.ofNat 0)),(.int .i64 (.ofNat 19)),(.int .i64 (.ofNat 0)),(.int .i64 (.ofNat 10)),(.int .i64 (.ofNat 0)),(.int .i64 (.ofNat 21)),(.int .i64 (.ofNat 0)),(.int .i64 (.ofNat 41)),(.int .i64 (.ofNat 0)),(.int .i64 (.ofNat 35)),(.int .i64 (.ofNat 0)),(.int .i64 (.ofNat 11)),(.int .i64 (.ofNat 0)),(.int .i64 (.ofNat 5)),(.int .i64 (.ofNat 1)),(.int .i64 (.ofNat 42)),(.int .i64 (.ofNat 0)),(.int .i64 (.ofNat 36)),(.int .i64 (.ofNat 0)),(.int .i64 (.ofNat 12)),(.int .i64 (.ofNat 3)),(.int .i64 (.ofNat 5)),(.int .i64 (.ofNat 3)),(.int .i64 (.ofNat 41)),(.int .i64 (.ofNat 0)),(.int .i64 (.ofNat 5)),(.int .i64 (.ofNat 2)),(.int .i64 (.ofNat 19)),(.int .i64 (.ofNat 0)),(.int .i64 (.ofNat 12)),(.int .i64 (.ofNat 2))]),
 (4274,4274,.cells [(.int .i64 (.ofNat 21)),(.int .i64 (.ofNat 0)),(.int .i64 (.ofNat 41)),(.int .i64 (.ofNat 0)),(.int .i64 (.ofNat 35)),(.int .i64 (.ofNat 0)),(.int .i64 (.ofNat 11)),(.int .i64 (.ofNat 0)),(.int .i64 (.ofNat 5)),(.int .i64 (.ofNat 1)),(.int .i64 (.ofNat 12)),(.int .i64 (.ofNat 2))]),
 (4380,4380,.cells [(.int .i64 (.ofNat 21)),(.int .i64 (.ofNat 0)),(.int .i64 (.ofNat 41)),(.int .i64 (.ofNat 0)),(.int .i64 (.ofNat 35)),(.int .i64 (.ofNat 0)),(.int .i64 (.ofNat 11)),(.int .i64 (.ofNat 0)),(.int .i64 (.ofNat 5)),(.int .i64 (.ofNat 1)),(.int .i64 (.ofNat 12)),(.int .i64 (.ofNat 3))]),
 (4412,4412,.cells [(.int .i64 (.ofNat 1)),(.int .i64 (.ofNat 0))]),
 (4445,4445,.cells [(.int .i64 (.ofNat 3)),(.int .i64 (.ofNat 0))]),
 (4453,4453,.cells [(.int .i64 (.ofNat 2)),(.sl 4274 0 6 2),(.int .i64 (.ofNat 3)),(.sl 4380 0 6 2),(.int .i64 (.ofNat 4)),(.sl 4412 0 1 2),(.int .i64 (.ofNat 5)),(.sl 4445 0 1 2)]),
 (4664,4664,.cells [(.int .i64 (.ofNat 41)),(.int .i64 (.ofNat 0)),(.int .i64 (.ofNat 5)),(.int .i64 (.ofNat 2)),(.int .i64 (.ofNat 20)),(.int .i64 (.ofNat 0)),(.int .i64 (.ofNat 42)),(.int .i64 (.ofNat 0)),(.int .i64 (.ofNat 36)),(.int .i64 (.ofNat 0)),(.int .i64 (.ofNat 12)),(.int .i64 (.ofNat 1)),(.int .i64 (.ofNat 17)),(.int .i64 (.ofNat 0)),(.int .i64 (.ofNat 41)),(.int .i64 (.ofNat 0)),(.int .i64 (.ofNat 19)),(.int .i64 (.ofNat 0)),(.int .i64 (.ofNat 12)),(.int .i64 (.ofNat 2)),(.int .i64 (.ofNat 35)),(.int .i64 (.ofNat 0)),(.int .i64 (.ofNat 12)),(.int .i64 (.ofNat 3)),(.int .i64 (.ofNat 5)),(.int .i64 (.ofNat 3))]),
 (4691,4691,.cells [(.int .i64 (.ofNat 3)),(.int .i64 (.ofNat 0))]),
 (4699,4699,.cells [(.int .i64 (.ofNat 2)),(.sl 4691 0 1 2)]),
 (4927,4927,.cells [(.int .i64 (.ofNat 41)),(.int .i64 (.ofNat 0)),(.int .i64 (.ofNat 41)),(.int .i64 (.ofNat 0)),(.int .i64 (.ofNat 19)),(.int .i64 (.ofNat 0)),(.int .i64 (.ofNat 5)),(.int .i64 (.ofNat 2)),(.int .i64 (.ofNat 19)),(.int .i64 (.ofNat 0)),(.int .i64 (.ofNat 5)),(.int .i64 (.ofNat 5)),(.int .i64 (.ofNat 21)),(.int .i64 (.ofNat 0)),(.int .i64 (.ofNat 41)),(.int .i64 (.ofNat 0)),(.int .i64 (.ofNat 41)),(.int .i64 (.ofNat 0)),(.int .i64 (.ofNat 35)),(.int .i64 (.ofNat 0)),(.int .i64 (.ofNat 12)),(.int .i64 (.ofNat 1)),(.int .i64 (.ofNat 17)),(.int .i64 (.ofNat 0)),(.int .i64 (.ofNat 12)),(.int .i64 (.ofNat 5)),(.int .i64 (.ofNat 19)),(.int .i64 (.ofNat 0)),(.int .i64 (.ofNat 12)),(.int .i64 (.ofNat 2))]),
 (4954,4954,.cells [(.int .i64 (.ofNat 2)),(.int .i64 (.ofNat 0))]),
 (4962,4962,.cells [(.int .i64 (.ofNat 5)),(.sl 4954 0 1 2)]),
 (4970,4970,.cells [(.str 7368564 3),(.sl 2939 0 9 2),(.sl 3006 0 2 2),(.str 7827308 3),(.sl 3394 0 23 2),(.sl 3709 0 2 2),(.str 474214786402 5),(.sl 3798 0 6 2),(.sl 3940 0 4 2),(.str 1701536116 4),(.sl 4174 0 16 2),(.sl 4453 0 4 2),(.str 114844899371366 6),(.sl 4664 0 13 2),(.sl 4699 0 1 2),(.str 7041889 3),(.sl 4927 0 15 2),(.sl 4962 0 1 2)])]
set_option maxHeartbeats 4000000 in
theorem me1:memoR rtab gpm1 4000 30 mu1 [2815,2939,2965,2998,3006,3394,3575,3701,3709,3798,3825,3867,3899,3932,3940,4174,4274,4380,4412,4445,4453,4664,4691,4699,4927,4954,4962,4970]=some (mg1,7588,mo1):=by kernel_rfl
noncomputable def gextm2 (f:Nat) (us:List GV) (H:GH):Option (GV×GH):=bif Nat.beq f 30 then(bif isS us (62612022078668281795505554093363622559854195865949253215105900396045672359969877880166549174032343132993734957765569202214538907514566311350427701009544032694847337705793280154083690688451269616688782133795410379376928705130345296445151552924450334836917827234573469831105668184247309683323748037249326305257450566500613104582596739355858495108587194514699348039550352061107652063950585699432193800786308390540153052463342825471615451497403378237530695269756800903089344746135921082798862585170912282432061314226997690214573863871773160495090950365393003392302336199511227963345777762340303723847551010267882950244475187531638497589816884840746003832656122559568072415127281877587919955134951848720898362784721630179183632514071187737718801766045181382178059597531935953865739058317213402067112106178269539818406468794623567714368406699984352401615611648009540554670638379077003046691601651659503488023036016650041344236444492625067110609540290467946795853434537583557082408411183186533670519462632865144031819183310381452310956185194634675703732849182713820334837695243446565596654286740386031565011357996399800921820918955437335624617843094112596863701508946442457135114386851122925397296113071978999231011209672540734656076492347048890983156526043032785285927167596865683405763291449118335047510792439178363711784660496025932951555546329846668545661249500619781993860494368395467151808107769959479474456951167188694307489519361853029722953071634727739222067984252267479508130870821814111526873691367656719627636282162632229619012164283959600299915921951610829461135327475232013270964287406921117221047932843602716792612622967992944,679)then memoK mg1 7588 mo1 H else gextm1 f us H)else gextm1 f us H
noncomputable def gpm2:GP:=⟨tyTab,gp.cat,gextm2,gp.exn⟩
theorem gextm2_ok {T:Nat} {w0:Base (gl T)} {w:World} {ρ:Rho} {H H':GH} {g:GV} {us:List GV} {vs:List Value} {f:Nat} (h:gextm2 f us H=some (g,H')) (R:Rel w0 ρ H w) (hr:RlL ρ us vs):CallSem Tryz.prog w0 ρ f vs w g H':=by
 unfold gextm2 at h
 cases e1:Nat.beq f 30 with
 |false=>rw[e1]at h;exact gextm1_ok h R hr
 | true =>
  rw[e1]at h
  cases e2:isS us (62612022078668281795505554093363622559854195865949253215105900396045672359969877880166549174032343132993734957765569202214538907514566311350427701009544032694847337705793280154083690688451269616688782133795410379376928705130345296445151552924450334836917827234573469831105668184247309683323748037249326305257450566500613104582596739355858495108587194514699348039550352061107652063950585699432193800786308390540153052463342825471615451497403378237530695269756800903089344746135921082798862585170912282432061314226997690214573863871773160495090950365393003392302336199511227963345777762340303723847551010267882950244475187531638497589816884840746003832656122559568072415127281877587919955134951848720898362784721630179183632514071187737718801766045181382178059597531935953865739058317213402067112106178269539818406468794623567714368406699984352401615611648009540554670638379077003046691601651659503488023036016650041344236444492625067110609540290467946795853434537583557082408411183186533670519462632865144031819183310381452310956185194634675703732849182713820334837695243446565596654286740386031565011357996399800921820918955437335624617843094112596863701508946442457135114386851122925397296113071978999231011209672540734656076492347048890983156526043032785285927167596865683405763291449118335047510792439178363711784660496025932951555546329846668545661249500619781993860494368395467151808107769959479474456951167188694307489519361853029722953071634727739222067984252267479508130870821814111526873691367656719627636282162632229619012164283959600299915921951610829461135327475232013270964287406921117221047932843602716792612622967992944,679)with
  |false=>rw[e2]at h;exact gextm1_ok h R hr
  |true=>
   rw[e2]at h;rw[Nat.eq_of_beq_eq_true e1]
   rw[isS_eq e2]at hr
   obtain⟨V,rfl,hv⟩:=hr.one
   obtain⟨x,rfl,e3,e4⟩:=hv.str_inv
   exact memo_ok (gs:=gl T) rtab_ok gokm1 me1 Tryz.call30 (RlL.cons (rl_str e3 e4) .nil) h R
theorem gokm2 {T:Nat} (w0:Base (gl T)):GOk Tryz.prog gpm2 rtab.fns w0:=⟨(gok w0).tab,(gok w0).mixed,(gok w0).fns,fun h ρ w vs R hr=>gextm2_ok h R hr,(gok w0).exn,(gok w0).cat⟩
noncomputable abbrev gp2:GP:=gpm2
theorem gok2 {T:Nat} (w0:Base (gl T)):GOk Tryz.prog gp2 rtab.fns w0:=gokm2 w0
end Go.Gx
end
section
namespace Go.Proofs.YtfbkplemadmbfaaGreatDoor
open Go Go.Sx Go.Gx
set_option maxRecDepth 100000
def m_law38_known (fuel:Nat):Option (Bool):=some (true)
theorem body10:HasBody Tryz.prog 10:=Tryz.call10
theorem closed10:okT (callR rtab gp2 4000 10 [] H0)=true:=by kernel_rfl
theorem t_law38_known (fuel:Nat) (r:Bool) (h:m_law38_known fuel=some r):
  Meets Tryz.prog 10 #[] [Gb 0 (cellsOf EU8 tab0)] (fun x:Unit=>Value.bool (r)) (fun x l=>l) (fun _ l=>l):=by
 obtain rfl:=Option.some.inj h
 obtain⟨H',h1⟩:=okT_spec closed10
 rw[callR_eq rtab_ok]at h1
 exact meets_closed glsOne body10 (fun ρ V' h=>h.bool_inv) fun T b=>callF_ok (gs:=gl T) gok2 h1 (Rel.start b) .nil
end Go.Proofs.YtfbkplemadmbfaaGreatDoor
end
section
namespace Go.Proofs.YtfbkplemadmbfaaGreatDoor
open Go.Sx
def m_ref38_Fit (fuel:Nat) (p0:List (Int)×(List (List (Int×Int)))):Option (Bool):=
 Option.bind (m_ref01_Connected fuel ((p0.1,p0.2))) fun r2=>(some (r2))
theorem body12:HasBody Tryz.prog 12:=Tryz.call12
theorem t_ref38_Fit (fuel:Nat) {p0:List (Int)×(List (List (Int×Int)))} (v0:Value)  (v1:Value)  (z2:List (Value×List (Int×Int))) (r:Bool) (h:m_ref38_Fit fuel p0=some r):
  Meets Tryz.prog 12 #[Value.agg #[v0,v1]] [Sl RI64 v0 p0.1,S2 RI64I64p v1 z2 p0.2] (fun x:Unit=>Value.bool (r)) (fun x l=>l) (fun _ l=>l):=by
 refine Meets.of (vs:=[Value.agg #[v0,v1]]) Tryz.func12 rfl Tryz.ntmps12 rfl fun c=> ?_
 unfold m_ref38_Fit at h
 refine J.seq<|J.region<|J.loud (Loud.box (cs:=[v0,v1]) rfl rfl) rfl fun b1=>J.quiet (Y.assign rfl) rfl<|J.done<|J.thenN<|J.seq<|J.region<|J.quiet (Y.loadBAll 0 rfl rfl rfl rfl) rfl ?_
 have h:=bnd h;obtain⟨r2,hr3,h⟩:=h
 refine J.loud (Loud.callL body41 (t_ref01_Connected fuel v0 v1 z2 r2 hr3) rfl (LentAll.cons (Lent.fact 0 rfl) (LentAll.cons (Lent.fact 1 rfl) .nil)) (fun _ _=>rfl)) rfl fun x4=>J.quiet (Y.assign rfl) rfl<|J.done<|J.thenN<|J.ret ?_
 obtain rfl:=Option.some.inj h
 exact J.retG1 (()) rfl rfl (RV.tmp rfl) (SubM.nil) LentAll.nil
end Go.Proofs.YtfbkplemadmbfaaGreatDoor
end
section
namespace Go.Proofs.YtfbkplemadmbfaaGreatDoor
open Go.Sx
def m_ref23_Truth (fuel:Nat) (p0:ByteArray):Option ((ByteArray×Int×Int×Int×Int×Int)):=
 some ((p0,(2:Int),(0:Int),(0:Int),(0:Int),(0:Int)))
theorem body88:HasBody Tryz.prog 88:=Tryz.call88
theorem t_ref23_Truth (fuel:Nat) {p0:ByteArray} (r:(ByteArray×Int×Int×Int×Int×Int)) (h:m_ref23_Truth fuel p0=some r):
  Meets Tryz.prog 88 #[Value.string (p0)] [] (fun x:Unit=>Value.agg #[Value.string (r.1),Value.int .i64 (r.2.1),Value.int .i64 (r.2.2.1),Value.int .i64 (r.2.2.2.1),Value.int .i64 (r.2.2.2.2.1),Value.int .i64 (r.2.2.2.2.2)]) (fun x l=>l) (fun _ l=>l):=by
 refine Meets.of (vs:=[Value.string (p0)]) Tryz.func88 rfl Tryz.ntmps88 rfl fun c=> ?_
 unfold m_ref23_Truth at h
 refine J.seq<|J.region<|J.loud (Loud.alloc (cs:=[Value.string (ByteArray.mk #[]),Value.int .i64 (0:Int),Value.int .i64 (0:Int),Value.int .i64 (0:Int),Value.int .i64 (0:Int),Value.int .i64 (0:Int)]) rfl rfl) rfl fun b1=>J.done<|J.thenN<|J.seq<|J.region<|J.quiet (Y.move rfl) rfl ?_
 refine J.quiet (Y.bld2 (r:=Value.agg #[Value.string (p0),Value.int .i64 (2:Int),Value.int .i64 (0:Int),Value.int .i64 (0:Int),Value.int .i64 (0:Int),Value.int .i64 (0:Int)]) rfl rfl (by intro w;simp[Instr.build,Instr.fill,cells_intV,cells_boolV,cells_sliceV,cells_ptrV,cells_strV,cells_funcV,cells_agg])) rfl ?_
 refine J.storeAll 0 (vs:=[Value.string (p0),Value.int .i64 (2:Int),Value.int .i64 (0:Int),Value.int .i64 (0:Int),Value.int .i64 (0:Int),Value.int .i64 (0:Int)]) rfl rfl rfl rfl rfl rfl<|J.done<|J.thenN<|J.ret ?_
 obtain rfl:=Option.some.inj h
 exact J.retG1 (()) rfl rfl (RV.cell 0 rfl rfl rfl rfl) (SubM.nil) LentAll.nil
end Go.Proofs.YtfbkplemadmbfaaGreatDoor
end
section
namespace Go.Proofs.YtfbkplemadmbfaaGreatDoor
open Go.Sx
def m_ref23_Number (fuel:Nat) (p0:ByteArray) (p1:Int) (p2:Int) (p3:Int):Option ((ByteArray×Int×Int×Int×Int×Int)):=
 some ((p0,(1:Int),(0:Int),p1,p2,p3))
theorem body87:HasBody Tryz.prog 87:=Tryz.call87
theorem t_ref23_Number (fuel:Nat) {p0:ByteArray} {p1:Int} {p2:Int} {p3:Int} (r:(ByteArray×Int×Int×Int×Int×Int)) (h:m_ref23_Number fuel p0 p1 p2 p3=some r):
  Meets Tryz.prog 87 #[Value.string (p0),Value.int .i64 (p1),Value.int .i64 (p2),Value.int .i64 (p3)] [] (fun x:Unit=>Value.agg #[Value.string (r.1),Value.int .i64 (r.2.1),Value.int .i64 (r.2.2.1),Value.int .i64 (r.2.2.2.1),Value.int .i64 (r.2.2.2.2.1),Value.int .i64 (r.2.2.2.2.2)]) (fun x l=>l) (fun _ l=>l):=by
 refine Meets.of (vs:=[Value.string (p0),Value.int .i64 (p1),Value.int .i64 (p2),Value.int .i64 (p3)]) Tryz.func87 rfl Tryz.ntmps87 rfl fun c=> ?_
 unfold m_ref23_Number at h
 refine J.seq<|J.region<|J.loud (Loud.alloc (cs:=[Value.string (ByteArray.mk #[]),Value.int .i64 (0:Int),Value.int .i64 (0:Int),Value.int .i64 (0:Int),Value.int .i64 (0:Int),Value.int .i64 (0:Int)]) rfl rfl) rfl fun b1=>J.done<|J.thenN<|J.seq<|J.region<|J.quiet (Y.move rfl) rfl<|J.quiet (Y.move rfl) rfl<|J.quiet (Y.move rfl) rfl<|J.quiet (Y.move rfl) rfl ?_
 refine J.quiet (Y.bld5 (r:=Value.agg #[Value.string (p0),Value.int .i64 (1:Int),Value.int .i64 (0:Int),Value.int .i64 (p1),Value.int .i64 (p2),Value.int .i64 (p3)]) rfl rfl rfl rfl rfl (by intro w;simp[Instr.build,Instr.fill,cells_intV,cells_boolV,cells_sliceV,cells_ptrV,cells_strV,cells_funcV,cells_agg])) rfl ?_
 refine J.storeAll 0 (vs:=[Value.string (p0),Value.int .i64 (1:Int),Value.int .i64 (0:Int),Value.int .i64 (p1),Value.int .i64 (p2),Value.int .i64 (p3)]) rfl rfl rfl rfl rfl rfl<|J.done<|J.thenN<|J.ret ?_
 obtain rfl:=Option.some.inj h
 exact J.retG1 (()) rfl rfl (RV.cell 0 rfl rfl rfl rfl) (SubM.nil) LentAll.nil
end Go.Proofs.YtfbkplemadmbfaaGreatDoor
end
section
namespace Go.Proofs.YtfbkplemadmbfaaGreatDoor
open Go.Sx
def m_ref23_Pointer (fuel:Nat) (p0:ByteArray):Option ((ByteArray×Int×Int×Int×Int×Int)):=
 some ((p0,(3:Int),(0:Int),(0:Int),(0:Int),(0:Int)))
theorem body139:HasBody Tryz.prog 139:=Tryz.call139
theorem t_ref23_Pointer (fuel:Nat) {p0:ByteArray} (r:(ByteArray×Int×Int×Int×Int×Int)) (h:m_ref23_Pointer fuel p0=some r):
  Meets Tryz.prog 139 #[Value.string (p0)] [] (fun x:Unit=>Value.agg #[Value.string (r.1),Value.int .i64 (r.2.1),Value.int .i64 (r.2.2.1),Value.int .i64 (r.2.2.2.1),Value.int .i64 (r.2.2.2.2.1),Value.int .i64 (r.2.2.2.2.2)]) (fun x l=>l) (fun _ l=>l):=by
 refine Meets.of (vs:=[Value.string (p0)]) Tryz.func139 rfl Tryz.ntmps139 rfl fun c=> ?_
 unfold m_ref23_Pointer at h
 refine J.seq<|J.region<|J.loud (Loud.alloc (cs:=[Value.string (ByteArray.mk #[]),Value.int .i64 (0:Int),Value.int .i64 (0:Int),Value.int .i64 (0:Int),Value.int .i64 (0:Int),Value.int .i64 (0:Int)]) rfl rfl) rfl fun b1=>J.done<|J.thenN<|J.seq<|J.region<|J.quiet (Y.move rfl) rfl ?_
 refine J.quiet (Y.bld2 (r:=Value.agg #[Value.string (p0),Value.int .i64 (3:Int),Value.int .i64 (0:Int),Value.int .i64 (0:Int),Value.int .i64 (0:Int),Value.int .i64 (0:Int)]) rfl rfl (by intro w;simp[Instr.build,Instr.fill,cells_intV,cells_boolV,cells_sliceV,cells_ptrV,cells_strV,cells_funcV,cells_agg])) rfl ?_
 refine J.storeAll 0 (vs:=[Value.string (p0),Value.int .i64 (3:Int),Value.int .i64 (0:Int),Value.int .i64 (0:Int),Value.int .i64 (0:Int),Value.int .i64 (0:Int)]) rfl rfl rfl rfl rfl rfl<|J.done<|J.thenN<|J.ret ?_
 obtain rfl:=Option.some.inj h
 exact J.retG1 (()) rfl rfl (RV.cell 0 rfl rfl rfl rfl) (SubM.nil) LentAll.nil
end Go.Proofs.YtfbkplemadmbfaaGreatDoor
end
section
namespace Go.Proofs.YtfbkplemadmbfaaGreatDoor
open Go.Sx
def m_ref23_Vars (fuel:Nat)  : Option ((List (ByteArray×Int×Int×Int×Int×Int))):=
 Option.bind (m_ref23_Number fuel (ByteArray.mk #[100]) (0:Int) (1:Int) (0:Int)) fun r1=>(Option.bind (m_ref23_Pointer fuel (ByteArray.mk #[112])) fun r4=>(some ([(r1.1,r1.2.1,r1.2.2.1,r1.2.2.2.1,r1.2.2.2.2.1,r1.2.2.2.2.2),(r4.1,r4.2.1,r4.2.2.1,r4.2.2.2.1,r4.2.2.2.2.1,r4.2.2.2.2.2)])))
theorem body110:HasBody Tryz.prog 110:=Tryz.call110
theorem t_ref23_Vars (fuel:Nat)  (r:(List (ByteArray×Int×Int×Int×Int×Int))) (h:m_ref23_Vars fuel  = some r):
  Meets Tryz.prog 110 #[] [] (fun x:Value=>x) (fun x l=>Ar EStI64I64I64I64I64p x r::l) (fun _ l=>l):=by
 refine Meets.of (vs:=[]) Tryz.func110 rfl Tryz.ntmps110 rfl fun c=> ?_
 unfold m_ref23_Vars at h
 refine J.seq<|J.region<|J.quiet (Y.assign rfl) rfl<|J.done<|J.thenN<|J.seq<|J.region ?_
 have h:=bnd h;obtain⟨r1,hr2,h⟩:=h
 refine J.loud (Loud.callL body87 (t_ref23_Number fuel  r1 hr2) rfl .nil (fun _ _=>rfl)) rfl fun x3=> ?_
 have h:=bnd h;obtain⟨r4,hr5,h⟩:=h
 refine J.loud (Loud.callL body139 (t_ref23_Pointer fuel  r4 hr5) rfl .nil (fun _ _=>rfl)) rfl fun x6=>J.loud (Loud.buildS (e:=EStI64I64I64I64I64p) ([((r1.1,r1.2.1,r1.2.2.1,r1.2.2.2.1,r1.2.2.2.2.1,r1.2.2.2.2.2)),((r4.1,r4.2.1,r4.2.2.1,r4.2.2.2.1,r4.2.2.2.2.1,r4.2.2.2.2.2))]) [(0,Value.agg #[Value.string (r1.1),Value.int .i64 (r1.2.1),Value.int .i64 (r1.2.2.1),Value.int .i64 (r1.2.2.2.1),Value.int .i64 (r1.2.2.2.2.1),Value.int .i64 (r1.2.2.2.2.2)]),(1,Value.agg #[Value.string (r4.1),Value.int .i64 (r4.2.1),Value.int .i64 (r4.2.2.1),Value.int .i64 (r4.2.2.2.1),Value.int .i64 (r4.2.2.2.2.1),Value.int .i64 (r4.2.2.2.2.2)])] rfl rfl rfl rfl (fill_2_6 (Value.string (r1.1)) (Value.int .i64 (r1.2.1)) (Value.int .i64 (r1.2.2.1)) (Value.int .i64 (r1.2.2.2.1)) (Value.int .i64 (r1.2.2.2.2.1)) (Value.int .i64 (r1.2.2.2.2.2)) (Value.string (r4.1)) (Value.int .i64 (r4.2.1)) (Value.int .i64 (r4.2.2.1)) (Value.int .i64 (r4.2.2.2.1)) (Value.int .i64 (r4.2.2.2.2.1)) (Value.int .i64 (r4.2.2.2.2.2))) rfl rfl rfl) rfl fun u7=>J.quiet (Y.assign rfl) rfl<|J.done<|J.thenN<|J.ret ?_
 obtain rfl:=Option.some.inj h
 exact J.retG1 (u7) rfl rfl (RV.tmp rfl) (SubM.refl _) LentAll.nil
end Go.Proofs.YtfbkplemadmbfaaGreatDoor
end
section
namespace Go.Proofs.YtfbkplemadmbfaaGreatDoor
open Go.Sx
def m_ref35_Vars (fuel:Nat)  : Option ((List (ByteArray×Int×Int×Int×Int×Int))):=
 Option.bind (m_ref23_Vars fuel) fun r1=>(Option.bind (m_ref23_Truth fuel (ByteArray.mk #[115])) fun r4=>(Option.bind (m_ref23_Truth fuel (ByteArray.mk #[98])) fun r7=>(ck ((List.length r1:Int)+(List.length ([(r4.1,r4.2.1,r4.2.2.1,r4.2.2.2.1,r4.2.2.2.2.1,r4.2.2.2.2.2),(r7.1,r7.2.1,r7.2.2.1,r7.2.2.2.1,r7.2.2.2.2.1,r7.2.2.2.2.2)]):Int)<=1099511627) (some (r1++([(r4.1,r4.2.1,r4.2.2.1,r4.2.2.2.1,r4.2.2.2.2.1,r4.2.2.2.2.2),(r7.1,r7.2.1,r7.2.2.1,r7.2.2.2.1,r7.2.2.2.2.1,r7.2.2.2.2.2)]))))))
theorem body86:HasBody Tryz.prog 86:=Tryz.call86
theorem t_ref35_Vars (fuel:Nat)  (r:(List (ByteArray×Int×Int×Int×Int×Int))) (h:m_ref35_Vars fuel  = some r):
  Meets Tryz.prog 86 #[] [] (fun x:Value=>x) (fun x l=>Ar EStI64I64I64I64I64p x r::l) (fun _ l=>l):=by
 refine Meets.of (vs:=[]) Tryz.func86 rfl Tryz.ntmps86 rfl fun c=> ?_
 unfold m_ref35_Vars at h
 refine J.seq<|J.region<|J.quiet (Y.assign rfl) rfl<|J.done<|J.thenN<|J.seq<|J.region ?_
 have h:=bnd h;obtain⟨r1,hr2,h⟩:=h
 refine J.loud (Loud.callL body110 (t_ref23_Vars fuel  r1 hr2) rfl .nil (fun _ _=>rfl)) rfl fun x3=> ?_
 have h:=bnd h;obtain⟨r4,hr5,h⟩:=h
 refine J.loud (Loud.callL body88 (t_ref23_Truth fuel  r4 hr5) rfl .nil (fun _ _=>rfl)) rfl fun x6=> ?_
 have h:=bnd h;obtain⟨r7,hr8,h⟩:=h
 refine J.loud (Loud.callL body88 (t_ref23_Truth fuel  r7 hr8) rfl .nil (fun _ _=>rfl)) rfl fun x9=>J.loud (Loud.buildS (e:=EStI64I64I64I64I64p) ([((r4.1,r4.2.1,r4.2.2.1,r4.2.2.2.1,r4.2.2.2.2.1,r4.2.2.2.2.2)),((r7.1,r7.2.1,r7.2.2.1,r7.2.2.2.1,r7.2.2.2.2.1,r7.2.2.2.2.2))]) [(0,Value.agg #[Value.string (r4.1),Value.int .i64 (r4.2.1),Value.int .i64 (r4.2.2.1),Value.int .i64 (r4.2.2.2.1),Value.int .i64 (r4.2.2.2.2.1),Value.int .i64 (r4.2.2.2.2.2)]),(1,Value.agg #[Value.string (r7.1),Value.int .i64 (r7.2.1),Value.int .i64 (r7.2.2.1),Value.int .i64 (r7.2.2.2.1),Value.int .i64 (r7.2.2.2.2.1),Value.int .i64 (r7.2.2.2.2.2)])] rfl rfl rfl rfl (fill_2_6 (Value.string (r4.1)) (Value.int .i64 (r4.2.1)) (Value.int .i64 (r4.2.2.1)) (Value.int .i64 (r4.2.2.2.1)) (Value.int .i64 (r4.2.2.2.2.1)) (Value.int .i64 (r4.2.2.2.2.2)) (Value.string (r7.1)) (Value.int .i64 (r7.2.1)) (Value.int .i64 (r7.2.2.1)) (Value.int .i64 (r7.2.2.2.1)) (Value.int .i64 (r7.2.2.2.2.1)) (Value.int .i64 (r7.2.2.2.2.2))) rfl rfl rfl) rfl fun u10=> ?_
 have h:=ck_some h;obtain⟨hc12,h⟩:=h
 refine J.loud (Loud.appendL 1 FStI64I64I64I64I64p rfl rfl rfl (Lent.ar (Lent.res 0 rfl) FStI64I64I64I64I64p) rfl rfl rfl rfl hc12 rfl) rfl fun u11=>J.quiet (Y.assign rfl) rfl<|J.done<|J.thenN<|J.ret ?_
 obtain rfl:=Option.some.inj h
 exact J.retG1 (u11) rfl rfl (RV.tmp rfl) (SubM.cons 1 rfl (SubM.nil)) LentAll.nil
end Go.Proofs.YtfbkplemadmbfaaGreatDoor
end
section
namespace Go.Proofs.YtfbkplemadmbfaaGreatDoor
open Go.Sx
def m_ref38_Vars (fuel:Nat)  : Option ((List (ByteArray×Int×Int×Int×Int×Int))):=
 Option.bind (m_ref35_Vars fuel) fun r1=>(Option.bind (m_ref23_Number fuel (ByteArray.mk #[121]) (3:Int) (0:Int) (0:Int)) fun r4=>(Option.bind (m_ref23_Truth fuel (ByteArray.mk #[114])) fun r7=>(ck ((List.length r1:Int)+(List.length ([(r4.1,r4.2.1,r4.2.2.1,r4.2.2.2.1,r4.2.2.2.2.1,r4.2.2.2.2.2),(r7.1,r7.2.1,r7.2.2.1,r7.2.2.2.1,r7.2.2.2.2.1,r7.2.2.2.2.2)]):Int)<=1099511627) (some (r1++([(r4.1,r4.2.1,r4.2.2.1,r4.2.2.2.1,r4.2.2.2.2.1,r4.2.2.2.2.2),(r7.1,r7.2.1,r7.2.2.1,r7.2.2.2.1,r7.2.2.2.2.1,r7.2.2.2.2.2)]))))))
theorem body46:HasBody Tryz.prog 46:=Tryz.call46
theorem t_ref38_Vars (fuel:Nat)  (r:(List (ByteArray×Int×Int×Int×Int×Int))) (h:m_ref38_Vars fuel  = some r):
  Meets Tryz.prog 46 #[] [] (fun x:Value=>x) (fun x l=>Ar EStI64I64I64I64I64p x r::l) (fun _ l=>l):=by
 refine Meets.of (vs:=[]) Tryz.func46 rfl Tryz.ntmps46 rfl fun c=> ?_
 unfold m_ref38_Vars at h
 refine J.seq<|J.region<|J.quiet (Y.assign rfl) rfl<|J.done<|J.thenN<|J.seq<|J.region ?_
 have h:=bnd h;obtain⟨r1,hr2,h⟩:=h
 refine J.loud (Loud.callL body86 (t_ref35_Vars fuel  r1 hr2) rfl .nil (fun _ _=>rfl)) rfl fun x3=> ?_
 have h:=bnd h;obtain⟨r4,hr5,h⟩:=h
 refine J.loud (Loud.callL body87 (t_ref23_Number fuel  r4 hr5) rfl .nil (fun _ _=>rfl)) rfl fun x6=> ?_
 have h:=bnd h;obtain⟨r7,hr8,h⟩:=h
 refine J.loud (Loud.callL body88 (t_ref23_Truth fuel  r7 hr8) rfl .nil (fun _ _=>rfl)) rfl fun x9=>J.loud (Loud.buildS (e:=EStI64I64I64I64I64p) ([((r4.1,r4.2.1,r4.2.2.1,r4.2.2.2.1,r4.2.2.2.2.1,r4.2.2.2.2.2)),((r7.1,r7.2.1,r7.2.2.1,r7.2.2.2.1,r7.2.2.2.2.1,r7.2.2.2.2.2))]) [(0,Value.agg #[Value.string (r4.1),Value.int .i64 (r4.2.1),Value.int .i64 (r4.2.2.1),Value.int .i64 (r4.2.2.2.1),Value.int .i64 (r4.2.2.2.2.1),Value.int .i64 (r4.2.2.2.2.2)]),(1,Value.agg #[Value.string (r7.1),Value.int .i64 (r7.2.1),Value.int .i64 (r7.2.2.1),Value.int .i64 (r7.2.2.2.1),Value.int .i64 (r7.2.2.2.2.1),Value.int .i64 (r7.2.2.2.2.2)])] rfl rfl rfl rfl (fill_2_6 (Value.string (r4.1)) (Value.int .i64 (r4.2.1)) (Value.int .i64 (r4.2.2.1)) (Value.int .i64 (r4.2.2.2.1)) (Value.int .i64 (r4.2.2.2.2.1)) (Value.int .i64 (r4.2.2.2.2.2)) (Value.string (r7.1)) (Value.int .i64 (r7.2.1)) (Value.int .i64 (r7.2.2.1)) (Value.int .i64 (r7.2.2.2.1)) (Value.int .i64 (r7.2.2.2.2.1)) (Value.int .i64 (r7.2.2.2.2.2))) rfl rfl rfl) rfl fun u10=> ?_
 have h:=ck_some h;obtain⟨hc12,h⟩:=h
 refine J.loud (Loud.appendL 1 FStI64I64I64I64I64p rfl rfl rfl (Lent.ar (Lent.res 0 rfl) FStI64I64I64I64I64p) rfl rfl rfl rfl hc12 rfl) rfl fun u11=>J.quiet (Y.assign rfl) rfl<|J.done<|J.thenN<|J.ret ?_
 obtain rfl:=Option.some.inj h
 exact J.retG1 (u11) rfl rfl (RV.tmp rfl) (SubM.cons 1 rfl (SubM.nil)) LentAll.nil
end Go.Proofs.YtfbkplemadmbfaaGreatDoor
end
section
namespace Go.Proofs.YtfbkplemadmbfaaGreatDoor
open Go.Sx
def ref38_Legit_k2  (a6:Unit):Option (Bool):=
 some (true)
def ref38_Legit_k3 (a10:Int) (ag9:(Int)->Option (Bool)) (a15:Bool):Option (Bool):=
 if a15=true then(some (false))else(ag9 (wI .i64 (a10+(1:Int))))
def ref38_Legit_s1 (p1:List (List (Int))) (a10:Int) (ag9:(Int)->Option (Bool)):Option (Bool):=
 if a10<(List.length p1:Int)then(ck (0<=a10∧a10<(List.length p1:Int)) (ck (0<=(2:Int)∧(2:Int)<(List.length (at' p1 a10):Int)) (if(at' (at' p1 a10) (2:Int))≠(0:Int)then(ref38_Legit_k3 a10 ag9 (true))else(ck (0<=a10∧a10<(List.length p1:Int)) (ck (0<=(5:Int)∧(5:Int)<(List.length (at' p1 a10):Int)) (if(at' (at' p1 a10) (5:Int))≠(0:Int)then(ref38_Legit_k3 a10 ag9 (true))else(ck (0<=a10∧a10<(List.length p1:Int)) (ck (0<=(3:Int)∧(3:Int)<(List.length (at' p1 a10):Int)) (ck (0<=(0:Int)∧(0:Int)<(List.length p1:Int)) (ck (0<=(3:Int)∧(3:Int)<(List.length (at' p1 (0:Int)):Int)) (ref38_Legit_k3 a10 ag9 (decide ((at' (at' p1 a10) (3:Int))≠(at' (at' p1 (0:Int)) (3:Int)))))))))))))))else(ref38_Legit_k2  (()))
def ref38_Legit_k1 (fuel:Nat) (p1:List (List (Int))) (a3:Bool):Option (Bool):=
 if a3=true then(some (false))else(iter (ref38_Legit_s1 p1) fuel (0:Int))
def m_ref38_Legit (fuel:Nat) (p0:List (Int)×(List (List (Int×Int)))) (p1:List (List (Int))):Option (Bool):=
 Option.bind (m_ref38_Fit fuel ((p0.1,p0.2))) fun r28=>(if(!r28)=true then(ref38_Legit_k1 fuel p1 (true))else(Option.bind (m_ref38_Vars fuel) fun r32=>(Option.bind (m_ref23_Config fuel ((p0.1,p0.2)) p1 r32) fun r35=>(if(!r35)=true then(ref38_Legit_k1 fuel p1 (true))else(Option.bind (m_ref23_Tree fuel ((p0.1,p0.2)) p1 (0:Int) (0:Int) (1:Int)) fun r39=>(ref38_Legit_k1 fuel p1 ((!r39))))))))
theorem body14:HasBody Tryz.prog 14:=Tryz.call14
theorem t_ref38_Legit (fuel:Nat) {p0:List (Int)×(List (List (Int×Int)))} {p1:List (List (Int))} (v0:Value)  (v1:Value)  (z2:List (Value×List (Int×Int)))  (v3:Value)  (z4:List (Value×List (Int))) (r:Bool) (h:m_ref38_Legit fuel p0 p1=some r):
  Meets Tryz.prog 14 #[Value.agg #[v0,v1],v3] [Sl RI64 v0 p0.1,S2 RI64I64p v1 z2 p0.2,S2 RI64 v3 z4 p1] (fun x:Unit=>Value.bool (r)) (fun x l=>l) (fun _ l=>l):=by
 refine Meets.of (vs:=[Value.agg #[v0,v1],v3]) Tryz.func14 rfl Tryz.ntmps14 rfl fun c=> ?_
 unfold m_ref38_Legit at h
 refine J.seq<|J.region<|J.loud (Loud.box (cs:=[v0,v1]) rfl rfl) rfl fun b1=>J.quiet (Y.assign rfl) rfl<|J.done<|J.thenN<|J.seq<|J.seq<|J.midI (A:=Bool) (B:=Unit) (fun a3=>ref38_Legit_k1 fuel p1 a3=some r) (fun a3 b4=>[(1,v3),(21,Value.bool (a3))]) (fun a3 b4=>[]) (fun a3 b4=>[Sl RI64 v0 p0.1,S2 RI64I64p v1 z2 p0.2,S2 RI64 v3 z4 p1]) ?_ ?_
 ·refine JR.start [0,1,3,7,15,15,15,127,255,511,1023,2047,2047,8191,16383,32767] 13 mixedOrders (by decide +kernel) ?_
  refine JR.open (by exact rfl) ?_
  refine JR.qt rfl (SubM.refl _) (SubL.nil) (Y.loadBAll 0 rfl rfl rfl rfl) HistOk.z ?_
  have h:=bnd h;obtain⟨r28,hr29,h⟩:=h
  refine JR.loud rfl rfl rfl (Loud.callL body12 (t_ref38_Fit fuel v0 v1 z2 r28 hr29) rfl (LentAll.cons (Lent.fact 0 rfl) (LentAll.cons (Lent.fact 1 rfl) .nil)) (fun _ _=>rfl)) rfl (fun x30=>(BsOk.b rfl BsOk.z)) fun x30=>JR.qt rfl (SubM.nil) (SubL.nil) (Y.not rfl) (HistOk.b rfl HistOk.z)<|JR.qt rfl (SubM.nil) (SubL.nil) (Y.move rfl) (HistOk.b rfl HistOk.z) ?_
  refine JR.guard (by exact rfl) (by exact rfl) (by exact rfl) (fun hp31=> ?_) (fun hp31=> ?_)
  ·have h:=ifP hp31 h
   refine JR.guardN rfl rfl rfl rfl<|JR.guardN rfl rfl rfl rfl<|JR.guardN rfl rfl rfl rfl<|JR.guardN rfl rfl rfl rfl<|JR.guardN rfl rfl rfl rfl<|JR.qt rfl (SubM.nil) (SubL.nil) (Y.pickT rfl rfl) (HistOk.b rfl HistOk.z)<|JR.qt rfl (SubM.nil) (SubL.nil) (Y.move rfl) (HistOk.b rfl HistOk.z)<|JR.guardN rfl rfl rfl rfl<|JR.guardN rfl rfl rfl rfl<|JR.tailD 13 rfl rfl<|J.guardN rfl rfl rfl<|J.guardN rfl rfl rfl<|J.quiet (Y.pickT rfl rfl) rfl<|J.done<|J.thenN ?_
   exact J.meetI (true) (()) h SF (SubM.nil) (LentAll.refl _ _)
  ·have h:=ifBN hp31 h
   refine JR.qtG rfl (SubM.refl _) (SubL.nil) (Y.loadBAll 0 rfl rfl rfl rfl) (HistOk.b rfl HistOk.z)<|JR.qtG rfl (SubM.nil) (SubL.nil) (Y.move rfl) (HistOk.b rfl HistOk.z) ?_
   have h:=bnd h;obtain⟨r32,hr33,h⟩:=h
   refine JR.loudG rfl rfl rfl rfl (Loud.callL body46 (t_ref38_Vars fuel  r32 hr33) rfl .nil (fun _ _=>rfl)) rfl (fun x34=>(BsOk.h (SubM.nil) (SubL.nil) (BsOk.h (SubM.cons 1 rfl (SubM.nil)) (SubL.nil) (BsOk.b rfl (BsOk.b rfl (BsOk.b rfl BsOk.z)))))) fun x34=> ?_
   have h:=bnd h;obtain⟨r35,hr36,h⟩:=h
   refine JR.loudG rfl rfl rfl rfl (Loud.callL body45 (t_ref23_Config fuel v0 v1 z2 v3 z4 x34 r35 hr36) rfl (LentAll.cons (Lent.fact 0 rfl) (LentAll.cons (Lent.fact 1 rfl) (LentAll.cons (Lent.fact 2 rfl) (LentAll.cons (Lent.ar (Lent.res 0 rfl) FStI64I64I64I64I64p) .nil)))) (fun _ _=>rfl)) rfl (fun x37=>(BsOk.b rfl (BsOk.b rfl (BsOk.b rfl (BsOk.b rfl (BsOk.b rfl BsOk.z)))))) fun x37=>JR.qtG rfl (SubM.nil) (SubL.nil) (Y.not rfl) (HistOk.b rfl (HistOk.b rfl (HistOk.b rfl HistOk.z)))<|JR.qt rfl (SubM.nil) (SubL.nil) (Y.pickF rfl rfl) (HistOk.b rfl (HistOk.b rfl (HistOk.b rfl HistOk.z)))<|JR.qt rfl (SubM.nil) (SubL.nil) (Y.move rfl) (HistOk.b rfl (HistOk.b rfl (HistOk.b rfl HistOk.z))) ?_
   refine JR.guard (by exact rfl) (by exact rfl) (by exact rfl) (fun hp38=> ?_) (fun hp38=> ?_)
   ·have h:=ifP hp38 h
    refine JR.guardN rfl rfl rfl rfl<|JR.guardN rfl rfl rfl rfl<|JR.tailD 13 rfl rfl<|J.guardN rfl rfl rfl<|J.guardN rfl rfl rfl<|J.quiet (Y.pickT rfl rfl) rfl<|J.done<|J.thenN ?_
    exact J.meetI (true) (()) h SF (SubM.nil) (LentAll.refl _ _)
   ·have h:=ifBN hp38 h
    refine JR.qtG rfl (SubM.cons 1 rfl (SubM.nil)) (SubL.nil) (Y.loadBAll 0 rfl rfl rfl rfl) (HistOk.b rfl (HistOk.b rfl (HistOk.b rfl HistOk.z)))<|JR.qtG rfl (SubM.nil) (SubL.nil) (Y.move rfl) (HistOk.b rfl (HistOk.b rfl (HistOk.b rfl HistOk.z)))<|JR.tailD 13 rfl rfl ?_
    have h:=bnd h;obtain⟨r39,hr40,h⟩:=h
    refine J.loudG rfl (Loud.callL body47 (t_ref23_Tree fuel v0 v1 z2 v3 z4 r39 hr40) rfl (LentAll.cons (Lent.fact 0 rfl) (LentAll.cons (Lent.fact 1 rfl) (LentAll.cons (Lent.fact 2 rfl) .nil))) (fun _ _=>rfl)) rfl fun x41=>J.guardY rfl (Y.not rfl) rfl<|J.quiet (Y.pickF rfl rfl) rfl<|J.done<|J.thenN ?_
    exact J.meetI ((!r39)) (()) h SF (SubM.nil) (LentAll.refl _ _)
 ·clear h
  intro a3 b4 h
  unfold ref38_Legit_k1 at h
  refine J.cond (by exact rfl) (fun hp5=> ?_) (fun hp5=> ?_)
  ·have h:=ifP hp5 h
   refine J.seq<|J.region<|J.quiet (Y.assign rfl) rfl<|J.done<|J.thenN<|J.ret<|J.thenR ?_
   obtain rfl:=Option.some.inj h
   exact J.retG1 (()) rfl rfl (RV.tmp rfl) (SubM.refl _) LentAll.nil
  ·have h:=ifBN hp5 h
   refine J.skip<|J.thenN<|J.seq<|J.midI (A:=Unit) (B:=Unit) (fun a6=>ref38_Legit_k2  a6=some r) (fun a6 b7=>[]) (fun a6 b7=>[]) (fun a6 b7=>[Sl RI64 v0 p0.1,S2 RI64I64p v1 z2 p0.2,S2 RI64 v3 z4 p1]) ?_ ?_
   ·refine J.seq<|J.region<|J.quiet (Y.assign rfl) rfl<|J.done<|J.thenN<|J.block<|J.loopI (A:=Int) (B:=Unit) (ref38_Legit_s1 p1) (fun a10 b11=>[(1,v3),(5,Value.int .i64 (a10))]) (fun a10 b11=>[]) (fun a10 b11=>[Sl RI64 v0 p0.1,S2 RI64I64p v1 z2 p0.2,S2 RI64 v3 z4 p1]) (0:Int) (()) h SF (SubM.refl _) (LentAll.refl _ _) ?_
    clear h
    intro k12 a10 b11 h
    unfold ref38_Legit_s1 at h
    refine J.seq<|J.seq<|J.region<|J.quiet (Y.move rfl) rfl<|J.quiet (Y.move rfl) rfl<|J.quiet (Y.lenN rfl (Lent.fact 2 rfl) rfl) rfl<|J.quiet (Y.lss rfl rfl) rfl<|J.done<|J.thenN ?_
    refine J.condD (by exact rfl) (fun hp13=> ?_) (fun hp13=> ?_)
    ·have h:=ifP hp13 h
     refine J.skip<|J.thenN<|J.seq<|J.block<|J.seq<|J.midI (A:=Bool) (B:=Unit) (fun a15=>ref38_Legit_k3 a10 (iter (ref38_Legit_s1 p1) k12) a15=some r) (fun a15 b16=>[(1,v3),(5,Value.int .i64 (a10)),(57,Value.bool (a15))]) (fun a15 b16=>[]) (fun a15 b16=>[Sl RI64 v0 p0.1,S2 RI64I64p v1 z2 p0.2,S2 RI64 v3 z4 p1]) ?_ ?_
     ·refine JR.start [0,0,3,7,15,31,63,127,255,255,1023,2047,4095,8191,16383,32767,65535,131071,131071,524287,1048575,2097151,4194303,131071,8519679,25296895,58851327,125960191,268435455,536870911] 28 mixedOrders (by decide +kernel) ?_
      refine JR.open (by exact rfl) ?_
      refine JR.qt rfl (SubM.refl _) (SubL.nil) (Y.move rfl) HistOk.z<|JR.qt rfl (SubM.refl _) (SubL.nil) (Y.move rfl) HistOk.z ?_
      have h:=ck_some h;obtain⟨hc18,h⟩:=h
      refine JR.qt rfl (SubM.refl _) (SubL.cons (List.mem_of_getElem? (i:=2) rfl) (SubL.nil)) (Y.indexN rfl rfl (Lent.fact 0 rfl) rfl rfl hc18) HistOk.z<|JR.qt rfl (SubM.refl _) (SubL.cons (List.mem_of_getElem? (i:=2) rfl) (SubL.nil)) (Y.loadRow rfl (Lent.fact 0 rfl) rfl rfl hc18) HistOk.z ?_
      have h:=ck_some h;obtain⟨hc19,h⟩:=h
      refine JR.qt rfl (SubM.refl _) (SubL.cons (List.mem_of_getElem? (i:=2) rfl) (SubL.nil)) (Y.indexS rfl rfl (Lent.el (Lent.fact 0 rfl) hc18.1 hc18.2) rfl rfl hc19) HistOk.z<|JR.qt rfl (SubM.refl _) (SubL.cons (List.mem_of_getElem? (i:=2) rfl) (SubL.nil)) (Y.loadS0 rfl (Lent.el (Lent.fact 0 rfl) hc18.1 hc18.2) rfl rfl rfl RI64c0 hc19) HistOk.z<|JR.qt rfl (SubM.refl _) (SubL.nil) (Y.neq rfl rfl) HistOk.z<|JR.qt rfl (SubM.refl _) (SubL.nil) (Y.move rfl) HistOk.z ?_
      refine JR.guardD (by exact rfl) (by exact rfl) (by exact rfl) (fun hp20=> ?_) (fun hp20=> ?_)
      ·have h:=ifP hp20 h
       refine JR.guardN rfl rfl rfl rfl<|JR.guardN rfl rfl rfl rfl<|JR.guardN rfl rfl rfl rfl<|JR.guardN rfl rfl rfl rfl<|JR.guardN rfl rfl rfl rfl<|JR.guardN rfl rfl rfl rfl<|JR.guardN rfl rfl rfl rfl<|JR.qt rfl (SubM.refl _) (SubL.nil) (Y.pickT rfl rfl) HistOk.z<|JR.qt rfl (SubM.refl _) (SubL.nil) (Y.move rfl) HistOk.z<|JR.guardN rfl rfl rfl rfl<|JR.guardN rfl rfl rfl rfl<|JR.guardN rfl rfl rfl rfl<|JR.guardN rfl rfl rfl rfl<|JR.guardN rfl rfl rfl rfl<|JR.guardN rfl rfl rfl rfl<|JR.guardN rfl rfl rfl rfl<|JR.guardN rfl rfl rfl rfl<|JR.guardN rfl rfl rfl rfl<|JR.guardN rfl rfl rfl rfl<|JR.guardN rfl rfl rfl rfl<|JR.tailD 28 rfl rfl<|J.guardN rfl rfl rfl<|J.quiet (Y.pickT rfl rfl) rfl<|J.done<|J.thenN ?_
       exact J.meetI (true) (()) h SF (SubM.refl _) (LentAll.refl _ _)
      ·have h:=ifN hp20 h
       refine JR.qtG rfl (SubM.refl _) (SubL.nil) (Y.move rfl) HistOk.z<|JR.qtG rfl (SubM.refl _) (SubL.nil) (Y.move rfl) HistOk.z ?_
       have h:=ck_some h;obtain⟨hc21,h⟩:=h
       refine JR.qtG rfl (SubM.refl _) (SubL.cons (List.mem_of_getElem? (i:=2) rfl) (SubL.nil)) (Y.indexN rfl rfl (Lent.fact 0 rfl) rfl rfl hc21) HistOk.z<|JR.qtG rfl (SubM.refl _) (SubL.cons (List.mem_of_getElem? (i:=2) rfl) (SubL.nil)) (Y.loadRow rfl (Lent.fact 0 rfl) rfl rfl hc21) HistOk.z ?_
       have h:=ck_some h;obtain⟨hc22,h⟩:=h
       refine JR.qtG rfl (SubM.refl _) (SubL.cons (List.mem_of_getElem? (i:=2) rfl) (SubL.nil)) (Y.indexS rfl rfl (Lent.el (Lent.fact 0 rfl) hc21.1 hc21.2) rfl rfl hc22) HistOk.z<|JR.qtG rfl (SubM.refl _) (SubL.cons (List.mem_of_getElem? (i:=2) rfl) (SubL.nil)) (Y.loadS0 rfl (Lent.el (Lent.fact 0 rfl) hc21.1 hc21.2) rfl rfl rfl RI64c0 hc22) HistOk.z<|JR.qtG rfl (SubM.refl _) (SubL.nil) (Y.neq rfl rfl) HistOk.z<|JR.qt rfl (SubM.refl _) (SubL.nil) (Y.pickF rfl rfl) HistOk.z<|JR.qt rfl (SubM.refl _) (SubL.nil) (Y.move rfl) HistOk.z ?_
       refine JR.guardD (by exact rfl) (by exact rfl) (by exact rfl) (fun hp23=> ?_) (fun hp23=> ?_)
       ·have h:=ifP hp23 h
        refine JR.guardN rfl rfl rfl rfl<|JR.guardN rfl rfl rfl rfl<|JR.guardN rfl rfl rfl rfl<|JR.guardN rfl rfl rfl rfl<|JR.guardN rfl rfl rfl rfl<|JR.guardN rfl rfl rfl rfl<|JR.guardN rfl rfl rfl rfl<|JR.guardN rfl rfl rfl rfl<|JR.guardN rfl rfl rfl rfl<|JR.guardN rfl rfl rfl rfl<|JR.guardN rfl rfl rfl rfl<|JR.tailD 28 rfl rfl<|J.guardN rfl rfl rfl<|J.quiet (Y.pickT rfl rfl) rfl<|J.done<|J.thenN ?_
        exact J.meetI (true) (()) h SF (SubM.refl _) (LentAll.refl _ _)
       ·have h:=ifN hp23 h
        refine JR.qtG rfl (SubM.refl _) (SubL.nil) (Y.move rfl) HistOk.z<|JR.qtG rfl (SubM.refl _) (SubL.nil) (Y.move rfl) HistOk.z ?_
        have h:=ck_some h;obtain⟨hc24,h⟩:=h
        refine JR.qtG rfl (SubM.refl _) (SubL.cons (List.mem_of_getElem? (i:=2) rfl) (SubL.nil)) (Y.indexN rfl rfl (Lent.fact 0 rfl) rfl rfl hc24) HistOk.z<|JR.qtG rfl (SubM.refl _) (SubL.cons (List.mem_of_getElem? (i:=2) rfl) (SubL.nil)) (Y.loadRow rfl (Lent.fact 0 rfl) rfl rfl hc24) HistOk.z ?_
        have h:=ck_some h;obtain⟨hc25,h⟩:=h
        refine JR.qtG rfl (SubM.refl _) (SubL.cons (List.mem_of_getElem? (i:=2) rfl) (SubL.nil)) (Y.indexS rfl rfl (Lent.el (Lent.fact 0 rfl) hc24.1 hc24.2) rfl rfl hc25) HistOk.z<|JR.qtG rfl (SubM.refl _) (SubL.cons (List.mem_of_getElem? (i:=2) rfl) (SubL.nil)) (Y.loadS0 rfl (Lent.el (Lent.fact 0 rfl) hc24.1 hc24.2) rfl rfl rfl RI64c0 hc25) HistOk.z<|JR.qtG rfl (SubM.refl _) (SubL.nil) (Y.move rfl) HistOk.z ?_
        have h:=ck_some h;obtain⟨hc26,h⟩:=h
        refine JR.qtG rfl (SubM.refl _) (SubL.cons (List.mem_of_getElem? (i:=2) rfl) (SubL.nil)) (Y.indexN rfl rfl (Lent.fact 0 rfl) rfl rfl hc26) HistOk.z<|JR.qtG rfl (SubM.refl _) (SubL.cons (List.mem_of_getElem? (i:=2) rfl) (SubL.nil)) (Y.loadRow rfl (Lent.fact 0 rfl) rfl rfl hc26) HistOk.z ?_
        have h:=ck_some h;obtain⟨hc27,h⟩:=h
        refine JR.qtG rfl (SubM.refl _) (SubL.cons (List.mem_of_getElem? (i:=2) rfl) (SubL.nil)) (Y.indexS rfl rfl (Lent.el (Lent.fact 0 rfl) hc26.1 hc26.2) rfl rfl hc27) HistOk.z<|JR.qtG rfl (SubM.refl _) (SubL.cons (List.mem_of_getElem? (i:=2) rfl) (SubL.nil)) (Y.loadS0 rfl (Lent.el (Lent.fact 0 rfl) hc26.1 hc26.2) rfl rfl rfl RI64c0 hc27) HistOk.z<|JR.tailD 28 rfl rfl<|J.guardY rfl (Y.neq rfl rfl) rfl<|J.quiet (Y.pickF rfl rfl) rfl<|J.done<|J.thenN ?_
        exact J.meetI (decide ((at' (at' p1 a10) (3:Int))≠(at' (at' p1 (0:Int)) (3:Int)))) (()) h SF (SubM.refl _) (LentAll.refl _ _)
     ·clear h
      intro a15 b16 h
      unfold ref38_Legit_k3 at h
      refine J.cond (by exact rfl) (fun hp17=> ?_) (fun hp17=> ?_)
      ·have h:=ifP hp17 h
       refine J.seq<|J.region<|J.quiet (Y.assign rfl) rfl<|J.done<|J.thenN<|J.ret<|J.inR<|J.thenR<|J.thenR<|J.inR<|J.thenR ?_
       obtain rfl:=Option.some.inj h
       exact J.retG1 (()) rfl rfl (RV.tmp rfl) (SubM.refl _) LentAll.nil
      ·have h:=ifBN hp17 h
       refine J.skip<|J.inN<|J.thenN<|J.region<|J.quiet (Y.move rfl) rfl<|J.quiet (Y.addW rfl rfl) rfl<|J.quiet (Y.assign rfl) rfl<|J.done<|J.thenN ?_
       exact J.againI (wI .i64 (a10+(1:Int))) (()) h SF (SubM.refl _) (LentAll.refl _ _)
    ·have h:=ifN hp13 h
     refine J.exit<|J.thenX<|J.thenX<|J.inX<|J.thenN ?_
     exact J.meetI (()) (()) h SF (SubM.refl _) (LentAll.refl _ _)
   ·clear h
    intro a6 b7 h
    unfold ref38_Legit_k2 at h
    refine J.seq<|J.region<|J.quiet (Y.assign rfl) rfl<|J.done<|J.thenN<|J.ret ?_
    obtain rfl:=Option.some.inj h
    exact J.retG1 (()) rfl rfl (RV.tmp rfl) (SubM.refl _) LentAll.nil
end Go.Proofs.YtfbkplemadmbfaaGreatDoor
end
