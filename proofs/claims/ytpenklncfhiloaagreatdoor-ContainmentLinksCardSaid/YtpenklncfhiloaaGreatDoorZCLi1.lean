/- Models and proofs. Conditions: none. -/
import Derived.WalkKit
import Derived.RangeFuncRecord
import Derived.OrdersIn
import Derived.TacticsIn
import Derived.DefersIn
import Derived.Test.YtpenklncfhiloaaGreatDoorProg
import Derived.Deep.AppendSrc
import Derived.Test.YtpenklncfhiloaaGreatDoorRows
import Derived.ProofKit
import Derived.Deep.Slices
import Derived.Lib.SmallJoins
set_option linter.unusedVariables false
set_option linter.unusedSimpArgs false
set_option maxHeartbeats 4000000
set_option maxRecDepth 20000
section
namespace Go.Sx
open Go.RowKit
section
def FR (r:Option Nat):Fence:={Fence.wide with round:=r}
theorem IJ (P:Program) (r:Option Nat):Machine.fenced P (FR r)=Machine.fenced P Fence.wide:=rfl
theorem OC (r:Option Nat) (n:Nat):(FR r).room n:=fun _ h=>by cases h
theorem OV {r:Option Nat} {n:Nat} {P:Program} {f:FuncId} {args:Array Value} {w:World} {R:Ending->World->Prop} (h:Calls P f args w R):CallsIn (FR r) n P f args w R:=
 ⟨trivial,fun cs _=>let ⟨e,w',fr,hr,s,x⟩:=h cs;⟨e,w',fr,hr,(IJ P r▸comesIn_wide.2 s),x⟩⟩
theorem LK {r:Option Nat} {n:Nat} {P:Program} {f:FuncId} {args:Array Value} {w:World} {R:Ending->World->Prop} (h:CallsIn (FR r) n P f args w R):Calls P f args w R:=
 fun cs=>let ⟨e,w',fr,hr,s,x⟩:=h.2 cs (OC r _);⟨e,w',fr,hr,ComesIn.comes s,x⟩
def _root_.Go.Code.wpr (r:Option Nat) (P:Program) (c:Code) (Q:Exit->Act->World->Prop) (a:Act) (w:World):Prop:=c.wpIn (FR r) 0 P Q a w
section
variable {r:Option Nat} {P:Program} {Q:Exit->Act->World->Prop} {a:Act} {w:World}
theorem EF {c:Code} {b:Exit->Act->World->Prop} (d:∀e a w,Q e a w->b e a w) (h:c.wpr r P Q a w):c.wpr r P b a w:=Code.wpIn_mono d h
theorem Qd {x y:Code} (h:x.wpr r P (Exit.then (y.wpr r P Q) Q) a w):(Code.seq x y).wpr r P Q a w:=wpIn_seq h
theorem JE {id:Nat} {x:Code} (h:x.wpr r P (Exit.inBlock id Q) a w):(Code.block id x).wpr r P Q a w:=wpIn_block h
theorem Ng (h:Q .normal a w):Code.skip.wpr r P Q a w:=wpIn_skip h
theorem Nf {id:Nat} (h:Q (.exit id) a w):(Code.exit id).wpr r P Q a w:=wpIn_exit h
theorem Qc (h:Q .ret a w):Code.ret.wpr r P Q a w:=wpIn_ret h
theorem Ce {x:Operand} {d c:Code} {b:Bool} (hc:a.eval x = .bool b) (f:b=true->d.wpr r P Q a w) (e:b=false->c.wpr r P Q a w):(Code.cond x d c).wpr r P Q a w:=wpIn_cond_split hc f e

def _root_.Go.Oper.rnd (P:Program) (o:Oper) (a:Act) (w:World) (K:Act->World->Prop):Prop:=
 ∃l f d b c w',(execOp a.eval o).run P w = .ok (.round l f d b c) w'∧RoundIn (FR none) 0 P l f d b c w' fun e g=>∃v,e = .returned v∧K (a.put o.dst v) g
theorem _root_.Go.Oper.rnd_mono {o:Oper} {K g:Act->World->Prop} (m:∀a w,K a w->g a w) (h:o.rnd P a w K):o.rnd P a w g:=by
 obtain⟨l,f,d,b,c,w',i,j⟩:=h
 exact⟨l,f,d,b,c,w',i,j.mono fun e p ⟨v,k,n⟩=>⟨v,k,m _ _ n⟩⟩
def iI (o:Oper):Bool:=match o.op with|.defer _=>false|_=>true
theorem Us {o:Oper} (h:iI o=true) (r:Option Nat) (ρ:Operand->Value):o.semAt r ρ=execOp ρ o:=
 Oper.semAt_eq r ρ o fun c hc=>by unfold iI at h;rw[hc]at h;cases h
theorem Zb {n:Nat} {b:String} {args:Array Value} {R:Value->World->Prop} (h:Rows P b args w R):RowsIn (FR r) n P b args w R:=fun c cs _=>
 let ⟨v,w',hr,s⟩:=h c cs;⟨v,w',hr,(IJ P r▸stepsIn_wide.2 s)⟩
theorem Xt {o:Oper} {K:Act->World->Prop} (q:iI o=true) (h:o.wp P a w K Q∨o.rnd P a w K):o.wpIn (FR r) 0 P a w K Q:=by
 refine⟨fun _ _=>trivial,?_⟩
 rw[Us q]
 rcases h with h|h
 ·unfold Oper.wp at h
  cases k:(execOp a.eval o).run P w with
  | ok x w' =>
   rw[k]at h
   cases x with
   |value v=>exact h
   |skip=>exact h
   |defer d=>exact h
   |enter f args=>
    refine⟨(fun hc=>by cases hc),(OV h).mono ?_⟩
    intro e b i
    cases e<;>exact i
   |row rw args=>exact⟨(fun hc=>by cases hc),Zb h⟩
   |_=>exact h.elim
  |halt x w'=>
   rw[k]at h
   cases x<;>first|exact h|exact h.elim
 ·obtain⟨l,f,m,g,j,w',n,p⟩:=h
  rw[n]
  refine⟨(fun hc=>by cases hc),?_⟩
  exact⟨trivial,fun c cs _=>by
   obtain⟨e,b,⟨v,i,t⟩,s⟩:=p.2 c cs (OC none _)
   subst i
   exact⟨.returned v,b,t,s⟩⟩
end
def wpList (P:Program) (ops:Array Oper) (Q:Exit->Act->World->Prop):List Oper->Act->World->Prop
 | [],a,w=>Q .normal a w
 |o::rest,a,w=>
  if Region.wanted o (yielded ops a.tmps)then o.wp P a w (wpList P ops Q rest) Q∨o.rnd P a w (wpList P ops Q rest)else wpList P ops Q rest (a.put o.dst undef) w
theorem wpList_in {r:Option Nat} {P:Program} {ops:Array Oper} {Q:Exit->Act->World->Prop}:∀(l:List Oper) (a:Act) (w:World),l.all iI=true->wpList P ops Q l a w->wpListIn (FR r) 0 P ops Q l a w
 | [],_,_,_,h=>h
 | o :: rest, a, w, hd, h => by
  simp only[List.all_cons,Bool.and_eq_true]at hd
  unfold wpList at h
  unfold wpListIn
  by_cases b:Region.wanted o (yielded ops a.tmps)=true
  ·rw[if_pos b]at h ⊢
   refine Xt hd.1 ?_
   rcases h with h|h
   ·exact .inl (Oper.wp_mono (fun a w h=>wpList_in rest a w hd.2 h) h)
   ·exact .inr (Oper.rnd_mono (fun a w h=>wpList_in rest a w hd.2 h) h)
  ·rw[if_neg b]at h ⊢
   exact⟨fun _ _=>trivial,wpList_in rest _ w hd.2 h⟩
theorem rC {r:Option Nat} {P:Program} {Q:Exit->Act->World->Prop} {a:Act} {w:World} {id:Nat} {l:List Oper} (b:l.all iI=true) (h:wpList P l.toArray Q l a w):(Code.region id l.toArray false).wpr r P Q a w:=
 wpIn_region_lit (wpList_in l a w b h)

def wpOp (P:Program) (ops:Array Oper) (Q:Exit->Act->World->Prop) (i:Nat) (K:Act->World->Prop) (a:Act) (w:World):Prop:=
 match ops[i]? with
 |none=>K a w
 |some o=>if Region.wanted o (yielded ops a.tmps)then o.wp P a w K Q∨o.rnd P a w K else K (a.put o.dst undef) w
def Iu (P:Program) (ops:Array Oper) (Q:Exit->Act->World->Prop):List Nat->Act->World->Prop
 | [],a,w=>Q .normal a w
 |i::rest,a,w=>wpOp P ops Q i (Iu P ops Q rest) a w
theorem OA {P:Program} {ops:Array Oper} {Q:Exit->Act->World->Prop} (i:Nat) (rest:List Nat) (a:Act) (w:World):Iu P ops Q (i::rest) a w=wpOp P ops Q i (Iu P ops Q rest) a w:=rfl
def wpAny (P:Program) (b:Region.Mode) (ops:Array Oper) (Q:Exit->Act->World->Prop):Nat->Array Bool->Act->World->Prop
 |0,listed,a,w=>Region.ready b ops listed=[]∧Q .normal a w
 |fuel+1,listed,a,w=>
  (Region.ready b ops listed=[]->Q .normal a w)∧
  ∀i∈Region.ready b ops listed,wpOp P ops Q i (wpAny P b ops Q fuel (listed.setIfInBounds i true)) a w
section
variable {r:Option Nat} {P:Program} {ops:Array Oper} {Q:Exit->Act->World->Prop}
theorem Qb {i:Nat} {K d:Act->World->Prop} {a:Act} {w:World} (f:∀o,ops[i]? = some o->iI o=true) (b:∀a w,K a w->d a w) (h:wpOp P ops Q i K a w):wpOpIn (FR r) 0 P ops Q i d a w:=by
 unfold wpOp at h
 unfold wpOpIn
 cases c:ops[i]? with
 |none=>rw[c]at h;exact b _ _ h
 | some o =>
  rw[c]at h
  dsimp only at h ⊢
  by_cases e:Region.wanted o (yielded ops a.tmps)=true
  ·rw[if_pos e]at h ⊢
   refine Xt (f o c) ?_
   rcases h with h|h
   ·exact .inl (Oper.wp_mono b h)
   ·exact .inr (Oper.rnd_mono b h)
  ·rw[if_neg e]at h ⊢
   exact⟨fun _ _=>trivial,b _ _ h⟩
theorem Nb (b:∀(i:Nat) (o:Oper),ops[i]? = some o->iI o=true):∀(s:List Nat) (a:Act) (w:World),Iu P ops Q s a w->wpOpsIn (FR r) 0 P ops Q s a w
 | [],_,_,h=>h
 |i::rest,a,w,h=>by
  rw[wpOpsIn_cons]
  exact Qb (b i) (fun a w h=>Nb b rest a w h) h
theorem Na {d:Region.Mode} (c:∀(i:Nat) (o:Oper),ops[i]? = some o->iI o=true):∀(fuel:Nat) (b:Array Bool) (a:Act) (w:World),wpAny P d ops Q fuel b a w->wpAnyIn (FR r) 0 P d ops Q fuel b a w
 |0,_,_,_,h=>h
 |fuel+1,b,a,w,h=>⟨h.1,fun i e=>Qb (c i) (fun a w h=>Na c fuel _ a w h) (h.2 i e)⟩
theorem FY {l:List Oper} (h:l.all iI=true) (i:Nat) (o:Oper) (a:l.toArray[i]? = some o):iI o=true:=by
 have b:o∈l:=by
  rw[List.getElem?_toArray]at a
  exact List.mem_of_getElem? a
 exact List.all_eq_true.1 h o b
theorem Cg {id:Nat} {l:List Oper} {a:Act} {w:World} (b:l.all iI=true) (c:P.follows .mixedOrders=true)
  (h:wpAny P .any l.toArray Q l.toArray.size (Array.replicate l.toArray.size false) a {w with drawn:=w.drawn+1}):(Code.region id l.toArray true).wpr r P Q a w:=
 wpIn_region_any c (Na (FY b) _ _ _ _ h)
theorem Gp {id:Nat} {l:List Oper} {a:Act} {w:World} (b:l.all iI=true)
  (h:∀t,Iu P l.toArray Q (Region.schedule (P.follows .mixedOrders) l.toArray t) a {w with drawn:=w.drawn+1}):(Code.region id l.toArray true).wpr r P Q a w:=
 wpIn_region_draw fun t=>Nb (FY b) _ _ _ (h t)
end

def fZ (P:Program) (fn:Func) (R:Ending->World->Prop):Exit->Act->World->Prop:=bodyPostM (FR none) 0 P fn R
theorem rD {P:Program} {f:FuncId} {fn:Func} {c:Code} {args:Array Value} {w:World} {R:Ending->World->Prop} (b:P.funcs[f]? = some fn) (a:fn.body=some c)
  (h:c.wpr none P (fZ P fn R) {tmps:=args++Array.replicate (fn.ntmps - args.size) undef,defers:=[]} w):Calls P f args w R:=
 LK (r:=none) (callsIn_of_wp_marks b a trivial h)
theorem body_end {P:Program} {fn:Func} {R:Ending->World->Prop} {a:Act} {w:World} {v:Value} {e:Exit} (f:e = .ret∨e = .normal) (c:a.defers=[]) (d:(results fn a.tmps).run P w = .ok v w) (b:R (.returned v) w):fZ P fn R e a w:=by
 rcases f with rfl|rfl
 ·show LeavesInM (FR none) 0 P fn a.tmps R a.defers .returning w
  rw[c];exact⟨v,d,b⟩
 ·show LeavesInM (FR none) 0 P fn a.tmps R a.defers .returning w
  rw[c];exact⟨v,d,b⟩
theorem Qt {P:Program} {fn:Func} {R:Ending->World->Prop} {a:Act} {w:World} {e:Exit} {D:Nat} {c:List Deferred} (g:e = .ret∨e = .normal) (f:a.defers={target:= .collected D,args:= #[]}::c) (d:w.heap[D]? = some (.deferred (some [])))
  (h:LeavesInM (FR none) 0 P fn a.tmps R c .returning (w.putObj D (.deferred none))):fZ P fn R e a w:=by
 have b:LeavesInM (FR none) 0 P fn a.tmps R a.defers .returning w:=by
  rw[f]
  exact⟨(fun hc=>by cases hc),.inl ⟨D,_,rfl,run_takeDeferred d,h⟩⟩
 rcases g with rfl|rfl<;>exact b
end
section

abbrev Fr:=List (Nat×Value)
def lk:Fr->Nat->Option Value
 | [],_=>none
 |(k,v)::r,t=>bif Nat.beq t k then some v else lk r t
def ev (σ:Fr):Operand->Option Value
 | .tmp t=>lk σ t
 | .const v=>some v
 | .global g=>some (.pointer (some ⟨g,0,none⟩))
 | .func f=>some (.func (.func f) #[] #[])
structure Sz where
 sz:Nat
 ds:List Deferred
structure Dl (n:Sz) (σ:Fr) (a:Act):Prop where
 defers:a.defers=n.ds
 size:a.tmps.size=n.sz
 slot:∀t v,lk σ t=some v->a.tmps[t]? = some v
theorem Dl.eval {n:Sz} {σ:Fr} {a:Act} (h:Dl n σ a) {x:Operand} {v:Value} (b:ev σ x=some v):a.eval x=v:=by
 cases x with
 |tmp t=>simp only[ev]at b;have:=h.slot t v b;simp[Act.eval,this]
 |const u=>simpa [ev,Act.eval]using b
 |global g=>simpa [ev,Act.eval]using b
 |func f=>simpa [ev,Act.eval]using b
theorem lL {t d:Nat} (e:t≠d):Nat.beq t d=false:=by
 cases h:Nat.beq t d with
 |false=>rfl
 |true=>exact absurd (Nat.eq_of_beq_eq_true h) e
theorem Dl.put {n:Sz} {σ:Fr} {a:Act} (h:Dl n σ a) (d:Nat) (v:Value) (f:Nat.blt d n.sz=true):Dl n ((d,v)::σ) (a.put (some d) v):=by
 have c:d<n.sz:=by simpa [Nat.blt_eq]using f
 refine⟨h.defers,by simp[Act.put,h.size],fun t u b=> ?_⟩
 simp only[lk]at b
 by_cases e:t=d
 ·subst e
  simp at b
  subst b
  simp[Act.put,h.size,c]
 ·rw[lL e]at b
  simp only[cond_false]at b
  simp only[Act.put]
  rw[Array.getElem?_setIfInBounds_ne (Ne.symm e)]
  exact h.slot t u b
def wW (σ a:Fr):Prop:=∀t v,lk a t=some v->lk σ t=some v
theorem wW.nil {σ:Fr}:wW σ []:=fun _ _ h=>by simp[lk]at h
theorem wW.refl (σ:Fr):wW σ σ:=fun _ _ h=>h
theorem wW.cons {σ b:Fr} {t:Nat} {v:Value} (h:lk σ t=some v) (r:wW σ b):wW σ ((t,v)::b):=by
 intro u x a
 simp only[lk]at a
 by_cases e:u=t
 ·subst e;simp at a;subst a;exact h
 ·rw[lL e]at a;exact r u x a
theorem Dl.weak {n:Sz} {σ b:Fr} {a:Act} (h:Dl n σ a) (c:wW σ b):Dl n b a:=
 ⟨h.defers,h.size,fun t v d=>h.slot t v (c t v d)⟩
theorem SF {σ a:Fr} (h:wW σ a:=by repeat (first|exact wW.nil|refine wW.cons rfl ?_)):wW σ a:=h

structure aX where
 p:World->(Nat->Prop)->Prop
 mono:∀{w w':World} {S S':Nat->Prop},p w S->(∀k,S k->k<w.heap.size->S' k∧w'.heap[k]? = w.heap[k]?)->p w' S'
structure tP where
 w0:World
 S0:Nat->Prop
 O:Nat->Prop:=fun _=>False
def tP.mine (c:tP) (k:Nat):Prop:=c.w0.heap.size<=k∨c.O k
def tP.all (c:tP) (k:Nat):Prop:=c.S0 k∨c.mine k
abbrev JJ (w w':World):Prop:=Below w.heap.size w w'
structure Ae (O:Nat->Prop) (w w':World):Prop where
 os:w'.os=w.os
 tape:w'.tape=w.tape
 output:w'.output=w.output
 size:w.heap.size<=w'.heap.size
 block:∀k,k<w.heap.size->¬O k->w'.heap[k]? = w.heap[k]?
theorem Ae.refl {O:Nat->Prop} (w:World):Ae O w w:=⟨rfl,rfl,rfl,Nat.le_refl _,fun _ _ _=>rfl⟩
theorem Ae.trans {O:Nat->Prop} {a b c:World} (h:Ae O a b) (k:JJ b c):Ae O a c:=
 ⟨k.os.trans h.os,k.tape.trans h.tape,k.output.trans h.output,Nat.le_trans h.size k.size,fun i d e=>(k.block i (Nat.lt_of_lt_of_le d h.size)).trans (h.block i d e)⟩
theorem Ae.ext {w w':World} (h:Ae (fun _=>False) w w'):JJ w w':=⟨h.os,h.tape,h.output,h.size,fun k a=>h.block k a id⟩
structure W_ (c:tP) (w:World) (M:List aX) (F:Nat->Nat->Prop):Prop where
 res:∀(i:Nat) (m:aX),M[i]? = some m->m.p w (F i)
 rng:∀i k,F i k->c.mine k∧k<w.heap.size
 dis:∀i j k,F i k->F j k->i=j
def CJ (c:tP) (F:Nat->Nat->Prop) (k:Nat):Prop:=c.all k∧∀i,¬F i k
structure St (c:tP) (M L:List aX) (w:World):Prop where
 old:Ae c.O c.w0 w
 own:∃F:Nat->Nat->Prop,W_ c w M F∧∀f∈L,f.p w (CJ c F)
theorem aX.same {f:aX} {w w':World} {S a:Nat->Prop} (h:f.p w S) (c:∀k,S k->a k) (e:∀k,S k->k<w.heap.size->w'.heap[k]? = w.heap[k]?):f.p w' a:=
 f.mono h fun k b d=>⟨c k b,e k b d⟩
theorem St.ext {c:tP} {M L:List aX} {w w':World} (h:St c M L w) (e:JJ w w'):St c M L w':=by
 obtain⟨n,F,a,g⟩:=h
 refine⟨n.trans e,F,⟨fun i m l=>aX.same (a.res i m l) (fun _ h=>h) (fun k _ b=>e.block k b),fun i k d=>⟨(a.rng i k d).1,Nat.lt_of_lt_of_le (a.rng i k d).2 e.size⟩,a.dis⟩,
  fun f j=>aX.same (g f j) (fun _ h=>h) (fun k _ b=>e.block k b)⟩

def aS (M M':List aX):Prop:=∃g:Nat->Nat,(∀i j,i<M'.length->j<M'.length->g i=g j->i=j)∧∀(i:Nat) (m:aX),M'[i]? = some m->M[g i]? = some m
theorem aS.refl (M:List aX):aS M M:=⟨id,fun _ _ _ _ h=>h,fun _ _ h=>h⟩
theorem aS.nil {M:List aX}:aS M []:=⟨id,fun _ _ h=>by simp at h,fun _ _ h=>by simp at h⟩
theorem aS.cons {M M':List aX} (i:Nat) {m:aX} (h:M[i]? = some m) (r:aS (M.eraseIdx i) M'):aS M (m::M'):=by
 obtain⟨g,o,p⟩:=r
 let e:Nat->Nat:=fun j=>match j with|0=>i|j+1=>if g j<i then g j else g j+1
 have s:i<M.length:=by
  rcases Nat.lt_or_ge i M.length with k|k
  ·exact k
  ·rw[List.getElem?_eq_none k]at h;cases h
 refine⟨e,?_,?_⟩
 ·intro a b l n c
  cases a with
  |zero=>
   cases b with
   |zero=>rfl
   |succ b=>simp only[e]at c;split at c<;>omega
  | succ a =>
   cases b with
   |zero=>simp only[e]at c;split at c<;>omega
   |succ b=>
    simp only[List.length_cons]at l n
    have:g a=g b:=by simp only[e]at c;split at c<;>split at c<;>omega
    have:=o a b (by omega) (by omega) this
    omega
 ·intro j q f
  cases j with
  |zero=>simp at f;subst f;exact h
  |succ j=>
   simp only[List.getElem?_cons_succ]at f
   have:=p j q f
   rw[List.getElem?_eraseIdx]at this
   simp only[e]
   split
   ·rename_i d;rwa[if_pos d]at this
   ·rename_i d;rwa[if_neg d]at this
theorem St.weak {c:tP} {M L M' L':List aX} {w:World} (h:St c M L w) (q:aS M M') (p:∀f∈L',f∈L):St c M' L' w:=by
 obtain⟨u,F,e,r⟩:=h
 obtain⟨g,s,t⟩:=q
 refine⟨u,fun i k=>i<M'.length∧F (g i) k,⟨fun i m a=> ?_,fun i k b=>e.rng _ k b.2,fun i j k a o=>s i j a.1 o.1 (e.dis _ _ k a.2 o.2)⟩,fun f l=> ?_⟩
 ·have n:i<M'.length:=by
   rcases Nat.lt_or_ge i M'.length with d|d
   ·exact d
   ·rw[List.getElem?_eq_none d]at a;cases a
  exact aX.same (e.res _ m (t i m a)) (fun k b=>⟨n,b⟩) (fun _ _ _=>rfl)
 ·exact aX.same (r f (p f l)) (fun k b=>⟨b.1,fun i a=>b.2 _ a.2⟩) (fun _ _ _=>rfl)
def xT (L L':List aX):Prop:=∀f∈L',f∈L
theorem xT.nil {L:List aX}:xT L []:=fun _ h=>by simp at h
theorem xT.cons {L L':List aX} {f:aX} (h:f∈L) (r:xT L L'):xT L (f::L'):=fun g a=>by
 rcases List.mem_cons.1 a with rfl|a
 ·exact h
 ·exact r g a

def J (c:tP) (n:Sz) (σ:Fr) (M L:List aX) (G:Act->World->Prop):Prop:=∀a w,Dl n σ a->St c M L w->G a w
section rules
variable {P:Program} {rd:Option Nat} {c:tP} {n:Sz} {σ σ':Fr} {M M' L L':List aX} {G G':Act->World->Prop} {Q:Exit->Act->World->Prop}
theorem RJ (h:J c n σ M L G) (g:∀a w,G a w->G' a w):J c n σ M L G':=fun a w s t=>g a w (h a w s t)
theorem Xy (h:J c n σ' M' L' G) (e:wW σ σ') (d:aS M M') (b:∀f∈L',f∈L):J c n σ M L G:=
 fun a w s t=>h a w (s.weak e) (t.weak d b)
theorem aH {x y:Code} (h:J c n σ M L (x.wpr rd P (Exit.then (y.wpr rd P Q) Q))):J c n σ M L ((Code.seq x y).wpr rd P Q):=fun a w s t=>Qd (h a w s t)
theorem aR {id:Nat} {x:Code} (h:J c n σ M L (x.wpr rd P (Exit.inBlock id Q))):J c n σ M L ((Code.block id x).wpr rd P Q):=fun a w s t=>JE (h a w s t)
theorem eJ (h:J c n σ M L (Q .normal)):J c n σ M L (Code.skip.wpr rd P Q):=fun a w s t=>Ng (h a w s t)
theorem qP {id:Nat} (h:J c n σ M L (Q (.exit id))):J c n σ M L ((Code.exit id).wpr rd P Q):=fun a w s t=>Nf (h a w s t)
theorem aN (h:J c n σ M L (Q .ret)):J c n σ M L (Code.ret.wpr rd P Q):=fun a w s t=>Qc (h a w s t)
theorem JL {x:Operand} {e d:Code} {b:Bool} (i:ev σ x=some (.bool b)) (g:b=true->J c n σ M L (e.wpr rd P Q)) (f:b=false->J c n σ M L (d.wpr rd P Q)):
  J c n σ M L ((Code.cond x e d).wpr rd P Q):=fun a w s t=>Ce (s.eval i) (fun h=>g h a w s t) (fun h=>f h a w s t)
theorem JM {x:Operand} {a b:Code} (d:ev σ x=some (.bool true)) (h:J c n σ M L (a.wpr rd P Q)):J c n σ M L ((Code.cond x a b).wpr rd P Q):=JL d (fun _=>h) (fun h=>by cases h)
theorem AC {x:Operand} {d a:Code} (b:ev σ x=some (.bool false)) (h:J c n σ M L (a.wpr rd P Q)):J c n σ M L ((Code.cond x d a).wpr rd P Q):=JL b (fun h=>by cases h) (fun _=>h)
theorem aM {id:Nat} {l:List Oper} (h:J c n σ M L (wpList P l.toArray Q l)) (b:l.all iI=true:=by rfl):J c n σ M L ((Code.region id l.toArray false).wpr rd P Q):=fun a w s t=>rC b (h a w s t)
theorem eI {ops:Array Oper} (h:J c n σ M L (Q .normal)):J c n σ M L (wpList P ops Q []):=h

variable {K:Act->World->Prop}
theorem zC (h:J c n σ M L K):J c n σ M L (Exit.then K Q .normal):=h
theorem eL {id:Nat} (h:J c n σ M L (Q (.exit id))):J c n σ M L (Exit.then K Q (.exit id)):=h
theorem aI (h:J c n σ M L (Q .ret)):J c n σ M L (Exit.then K Q .ret):=h
theorem KZ {id:Nat} (h:J c n σ M L (Q .normal)):J c n σ M L (Exit.inBlock id Q .normal):=h
theorem bT {id:Nat} (h:J c n σ M L (Q .ret)):J c n σ M L (Exit.inBlock id Q .ret):=h
theorem wU {id:Nat} (h:J c n σ M L (Q .normal)):J c n σ M L (Exit.inBlock id Q (.exit id)):=fun a w s t=>by
 simp only[Exit.inBlock,if_true];exact h a w s t
theorem Vb {id b:Nat} (e:Nat.beq b id=false) (h:J c n σ M L (Q (.exit b))):J c n σ M L (Exit.inBlock id Q (.exit b)):=fun a w s t=>by
 have:b≠id:=fun h=>by subst h;simp at e
 simp only[Exit.inBlock,if_neg this];exact h a w s t

def Inv {X:Type} (c:tP) (n:Sz) (C:X->Prop) (b:X->Fr) (e d:X->List aX) (f:X->Nat) (m:Nat) (a:Act) (w:World):Prop:=
 ∃x,C x∧f x<m∧Dl n (b x) a∧St c (e x) (d x) w
theorem RI {X:Type} {d:Code} (C:X->Prop) (o:X->Fr) (D B:X->List aX) (F:X->Nat) (A:X) (W:C A)
  (S:wW σ (o A)) (hM:aS M (D A)) (Z:∀f∈B A,f∈L)
  (r:∀x,C x->J c n (o x) (D x) (B x) (d.wpr rd P (Exit.then (Inv c n C o D B F (F x)) Q))):J c n σ M L ((Code.loop d).wpr rd P Q):=by
 intro a w s t b k cs R I O
 have V:∀m x a w,F x=m->C x->Dl n (o x) a->St c (D x) (B x) w->
   ∃e E w',Q e E w'∧ArrivesIn (Machine.fenced P (FR rd)) P (lone (b.atR a (.code d :: .inLoop d::k)) cs w) b k cs e E w':=by
  intro m
  induction m using Nat.strongRecOn with
  | _ m ih =>
   intro x a w hm Y S ht
   obtain⟨e,h,i,p,g⟩:=r x Y a w S ht b (.inLoop d::k) cs R I O
   cases e with
   |normal=>
    obtain⟨y,H,N,T,U⟩:=p
    obtain⟨v,u,z,q,j⟩:=ih (F y) (hm▸N) y h i rfl H T U
    exact⟨v,u,z,q,.of_steps (StepsIn.trans g (.one (fenced_calm I O rfl) stepR_inLoop)) j⟩
   |exit id=>exact⟨_,h,i,p,.pass (x:= .inLoop d) rfl (fun _ _=> .inl (by simp)) g⟩
   |goto l=>exact⟨_,h,i,p,.pass (x:= .inLoop d) rfl (fun _ _=> .inl (by simp)) g⟩
   |ret=>exact⟨_,h,i,p,.pass (x:= .inLoop d) rfl (fun _ _=> .inl (by simp)) g⟩
   |panic ch=>exact⟨_,h,i,p,.pass (x:= .inLoop d) rfl (fun _ _=> .inl (by simp)) g⟩
   |outgrown=>exact⟨_,h,i,p,.pass (x:= .inLoop d) rfl (fun _ _=> .inl (by simp)) g⟩
 obtain⟨e,E,w',p,g⟩:=V _ A a w rfl W (s.weak S) (t.weak hM Z)
 exact⟨e,E,w',p,.of_steps (.one (fenced_calm I O rfl) stepR_loop) g⟩


def Y (P:Program) (c:tP) (n:Sz) (σ:Fr) (M L:List aX) (o:Oper) (v:Value):Prop:=
 ∀a w,Dl n σ a->St c M L w->(execOp a.eval o).run P w = .ok (.value v) w
theorem kC {ops:Array Oper} {rest:List Oper} {o:Oper} {a:Act} {w:World} (b:Region.wanted o (yielded ops a.tmps)=true)
  (h:o.wp P a w (wpList P ops Q rest) Q):wpList P ops Q (o::rest) a w:=by
 unfold wpList;rw[if_pos b];exact .inl h
theorem aB {ops:Array Oper} {rest:List Oper} {d:Nat} {b:Op} {ty:TypeId} {pos:String} {aft:Array Edge} {v:Value}
  (f:Y P c n σ M L ⟨some d,b,ty,pos,aft,none⟩ v) (e:Nat.blt d n.sz=true) (h:J c n ((d,v)::σ) M L (wpList P ops Q rest)):
  J c n σ M L (wpList P ops Q (⟨some d,b,ty,pos,aft,none⟩::rest)):=fun a w s t=>
 kC rfl (by simp only[Oper.wp,f a w s t,Oper.upon];exact h _ w (s.put d v e) t)
def gv (ops:Array Oper) (σ:Fr) (j:Nat):Option Bool:=
 match ((ops[j]?).bind (·.dst)).bind (lk σ)with
 |some (.bool b)=>some b
 |_=>none
theorem yH {ops:Array Oper} {j:Nat} {b:Bool} {a:Act} (s:Dl n σ a) (h:gv ops σ j=some b):yielded ops a.tmps j=some b:=by
 unfold gv at h
 unfold yielded
 cases f:(ops[j]?).bind (·.dst)with
 |none=>simp[f]at h
 | some d =>
  simp only[f,Option.bind_some]at h ⊢
  cases e:lk σ d with
  |none=>simp[e]at h
  |some v=>
   rw[s.slot d v e]
   rw[e]at h
   cases v<;>first|exact h|cases h
theorem aL {ops:Array Oper} {rest:List Oper} {d:Nat} {e:Op} {ty:TypeId} {pos:String} {aft:Array Edge} {j:Nat} {b:Bool} {v:Value}
  (g:gv ops σ j=some b) (i:Y P c n σ M L ⟨some d,e,ty,pos,aft,some (j,b)⟩ v) (f:Nat.blt d n.sz=true) (h:J c n ((d,v)::σ) M L (wpList P ops Q rest)):
  J c n σ M L (wpList P ops Q (⟨some d,e,ty,pos,aft,some (j,b)⟩::rest)):=fun a w s t=>
 kC (by simp[Region.wanted,yH s g]) (by simp only[Oper.wp,i a w s t,Oper.upon];exact h _ w (s.put d v f) t)
theorem RH {ops:Array Oper} {rest:List Oper} {d:Nat} {k:Op} {ty:TypeId} {pos:String} {aft:Array Edge} {j:Nat} {b e:Bool}
  (i:gv ops σ j=some e) (f:(e==b)=false) (g:Nat.blt d n.sz=true) (h:J c n ((d,undef)::σ) M L (wpList P ops Q rest)):
  J c n σ M L (wpList P ops Q (⟨some d,k,ty,pos,aft,some (j,b)⟩::rest)):=fun a w s t=>by
 unfold wpList
 rw[if_neg (by simp[Region.wanted,yH s i,f])]
 exact h _ w (s.put d undef g) t
theorem Dl.over {n:Sz} {σ:Fr} {a:Act} (h:Dl n σ a) {d:Nat} {v:Value} (f:a.tmps[d]? = some v):Dl n ((d,v)::σ) a:=
 ⟨h.defers,h.size,fun t u b=>by
  simp only[lk]at b
  by_cases e:t=d
  ·subst e;simp at b;subst b;exact f
  ·rw[lL e]at b;exact h.slot t u b⟩
theorem qE {ops:Array Oper} {rest:List Oper} {d:Option Tmp} {g:Op} {ty:TypeId} {pos:String} {aft:Array Edge} {j f:Nat} {e b:Bool}
  (_:(ops[j]?).bind (·.dst)=some f) (h:lk σ f=some (.bool e)) (k:e=true->J c n ((f,.bool true)::σ) M L (wpList P ops Q (⟨d,g,ty,pos,aft,some (j,b)⟩::rest)))
  (i:e=false->J c n ((f,.bool false)::σ) M L (wpList P ops Q (⟨d,g,ty,pos,aft,some (j,b)⟩::rest))):
  J c n σ M L (wpList P ops Q (⟨d,g,ty,pos,aft,some (j,b)⟩::rest)):=by
 cases e
 ·exact fun a w s t=>i rfl a w (s.over (s.slot _ _ h)) t
 ·exact fun a w s t=>k rfl a w (s.over (s.slot _ _ h)) t
theorem RG {ops:Array Oper} {rest:List Oper} {d:Option Tmp} {e:Op} {ty:TypeId} {pos:String} {aft:Array Edge} {j a:Nat} {p:Prop} {_:Decidable p} {b:Bool}
  (f:(ops[j]?).bind (·.dst)=some a) (i:lk σ a=some (.bool (decide p))) (k:p->J c n ((a,.bool true)::σ) M L (wpList P ops Q (⟨d,e,ty,pos,aft,some (j,b)⟩::rest)))
  (g:¬p->J c n ((a,.bool false)::σ) M L (wpList P ops Q (⟨d,e,ty,pos,aft,some (j,b)⟩::rest))):
  J c n σ M L (wpList P ops Q (⟨d,e,ty,pos,aft,some (j,b)⟩::rest)):=
 qE f i (fun h=>k (of_decide_eq_true h)) (fun h=>g (of_decide_eq_false h))
theorem Va {x:Operand} {b a:Code} {p:Prop} {_:Decidable p} (f:ev σ x=some (.bool (decide p))) (e:p->J c n σ M L (b.wpr rd P Q)) (d:¬p->J c n σ M L (a.wpr rd P Q)):
  J c n σ M L ((Code.cond x b a).wpr rd P Q):=JL f (fun h=>e (of_decide_eq_true h)) (fun h=>d (of_decide_eq_false h))
end rules
end
section

structure Ty where
 desc:TypeDesc
 size:Nat
 bytes:Nat
 zero:Value
structure qL (P:Program) (T:Nat) (d:Ty):Prop where
 und:P.underlying T=some d.desc
 info:∃i,P.info? T=some i∧i.size=d.size∧i.bytes=d.bytes∧i.zero=some d.zero
class cA (P:Program) where
 tab:Nat->Option Ty
 ok:∀{T d},tab T=some d->qL P T d
section
variable {P:Program} {T:Nat} {d:Ty} (w:World)
theorem qL.run_und (h:qL P T d):(underlying T).run P w = .ok d.desc w:=run_underlying h.und w
theorem qL.run_size (h:qL P T d):(sizeOf T).run P w = .ok d.size w:=by
 obtain⟨i,a,b,_,_⟩:=h.info
 simp[sizeOf,typeInfo,a,b]
theorem qL.run_zero (h:qL P T d):(zeroValue T).run P w = .ok d.zero w:=by
 obtain⟨i,a,_,_,b⟩:=h.info
 simp[zeroValue,typeInfo,a,b]
def uA:TypeDesc->Bool
 | .struct _ | .array _ _=>true
 |_=>false
theorem qL.run_agg (h:qL P T d):(isAgg T).run P w = .ok (uA d.desc) w:=by
 simp only[isAgg]
 simp[h.run_und w]
 cases d.desc<;>rfl
end

section
variable {P:Program} {rd:Option Nat} {c:tP} {n:Sz} {σ:Fr} {M L:List aX}
variable {d:Option Tmp} {ty:TypeId} {pos:String} {aft:Array Edge} {g:Option (Nat×Bool)}
theorem kT {x:Operand} {v:Value} (b:ev σ x=some v):Y P c n σ M L ⟨d,.move x,ty,pos,aft,g⟩ v:=fun a w s _=>by
 simp[execOp,s.eval b]
theorem nX {x:Operand} {v:Value} (b:ev σ x=some v):Y P c n σ M L ⟨d,.assign x,ty,pos,aft,g⟩ v:=fun a w s _=>by
 simp[execOp,s.eval b]
theorem JW {x y z:Operand} {v:Value} (b:ev σ x=some (.bool true)) (e:ev σ y=some v):Y P c n σ M L ⟨d,.pick x y z,ty,pos,aft,g⟩ v:=fun a w s _=>by
 simp[execOp,s.eval b,s.eval e,asBool]
theorem Gt {x y z:Operand} {v:Value} (b:ev σ x=some (.bool false)) (e:ev σ z=some v):Y P c n σ M L ⟨d,.pick x y z,ty,pos,aft,g⟩ v:=fun a w s _=>by
 simp[execOp,s.eval b,s.eval e,asBool]
theorem JF {x:Int} (a : -9223372036854775808<=x) (b:x<=9223372036854775807):IntKind.i64.wrap x=x:=by
 unfold IntKind.wrap
 simp only[IntKind.bits,IntKind.signed]
 simp
 omega
theorem iA {a:BinOp} {t:TypeId} {x y:Operand} {k b:IntKind} {p q:Int} (w:World):(eqGuard a t x y (.int k p) (.int b q)).run P w = .ok () w:=by
 unfold eqGuard
 cases a<;>simp
theorem LA {t f:TypeId} {x y:Operand} {k:IntKind} {p q:Int} (b:ev σ x=some (.int k p)) (e:ev σ y=some (.int k q)) (h:q≠0):
  Y P c n σ M L ⟨d,.binOp .rem t x y f,ty,pos,aft,g⟩ (.int k (p.tmod q)):=fun a w s _=>by
 simp[execOp,s.eval b,s.eval e,binOp,Op.intDiv,iA,h]
theorem FJ {t f:TypeId} {x y:Operand} {k:IntKind} {p q:Int} (b:ev σ x=some (.int k p)) (e:ev σ y=some (.int k q)):
  Y P c n σ M L ⟨d,.binOp .lss t x y f,ty,pos,aft,g⟩ (.bool (decide (p<q))):=fun a w s _=>by
 simp[execOp,s.eval b,s.eval e,binOp,Op.intCmp,iA]
theorem Bg {t f:TypeId} {x y:Operand} {k:IntKind} {p q:Int} (b:ev σ x=some (.int k p)) (e:ev σ y=some (.int k q)):
  Y P c n σ M L ⟨d,.binOp .leq t x y f,ty,pos,aft,g⟩ (.bool (decide (p<=q))):=fun a w s _=>by
 simp[execOp,s.eval b,s.eval e,binOp,Op.intCmp,iA]
theorem wX {t f:TypeId} {x y:Operand} {k:IntKind} {p q:Int} (b:ev σ x=some (.int k p)) (e:ev σ y=some (.int k q)):
  Y P c n σ M L ⟨d,.binOp .gtr t x y f,ty,pos,aft,g⟩ (.bool (decide (q<p))):=fun a w s _=>by
 simp[execOp,s.eval b,s.eval e,binOp,Op.intCmp,iA]
theorem Bf {t f:TypeId} {x y:Operand} {k:IntKind} {p q:Int} (b:ev σ x=some (.int k p)) (e:ev σ y=some (.int k q)):
  Y P c n σ M L ⟨d,.binOp .geq t x y f,ty,pos,aft,g⟩ (.bool (decide (q<=p))):=fun a w s _=>by
 simp[execOp,s.eval b,s.eval e,binOp,Op.intCmp,iA]
theorem yE {t f:TypeId} {x y:Operand} {k:IntKind} {p q:Int} (b:ev σ x=some (.int k p)) (e:ev σ y=some (.int k q)):
  Y P c n σ M L ⟨d,.binOp .eql t x y f,ty,pos,aft,g⟩ (.bool (decide (p=q))):=fun a w s _=>by
 simp[execOp,s.eval b,s.eval e,binOp,Op.intCmp,iA]
 by_cases h:p=q<;>simp[h]
theorem FK {t f:TypeId} {x y:Operand} {k:IntKind} {p q:Int} (b:ev σ x=some (.int k p)) (e:ev σ y=some (.int k q)):
  Y P c n σ M L ⟨d,.binOp .neq t x y f,ty,pos,aft,g⟩ (.bool (decide (p≠q))):=fun a w s _=>by
 simp[execOp,s.eval b,s.eval e,binOp,Op.intCmp,iA]
 by_cases h:p=q<;>simp[h]
theorem o_ {t:TypeId} {x:Operand} {b:Bool} (e:ev σ x=some (.bool b)):Y P c n σ M L ⟨d,.unOp .not t x,ty,pos,aft,g⟩ (.bool (!b)):=fun a w s _=>by
 simp[execOp,s.eval e,Op.unary]
theorem Sj {t:TypeId} {x:Operand} {p:Prop} {_:Decidable p} (b:ev σ x=some (.bool (decide p))):Y P c n σ M L ⟨d,.unOp .not t x,ty,pos,aft,g⟩ (.bool (decide (¬p))):=fun a w s _=>by
 simp[execOp,s.eval b,Op.unary]
theorem e_ {x:Operand} {vs:List Value} {i:Nat} {v:Value} (e:ev σ x=some (.tuple vs.toArray)) (b:vs[i]? = some v):Y P c n σ M L ⟨d,.extract x i,ty,pos,aft,g⟩ v:=fun a w s _=>by
 simp[execOp,s.eval e,Instr.extract,b]
theorem Hc {t f:TypeId} {x y:Operand} {k:IntKind} {p q:Int} (b:ev σ x=some (.int k p)) (e:ev σ y=some (.int k q)):
  Y P c n σ M L ⟨d,.call ⟨.builtin .max,#[x,y],#[t,f]⟩,ty,pos,aft,g⟩ (.int k (max p q)):=fun a w s _=>by
 simp[execOp,resolve,invoke,builtin,s.eval b,s.eval e,Builtin.max_,Builtin.max2]
 split<;>omega
theorem Xb {t f:TypeId} {x y:Operand} {k:IntKind} {p q:Int} (b:ev σ x=some (.int k p)) (e:ev σ y=some (.int k q)):
  Y P c n σ M L ⟨d,.call ⟨.builtin .min,#[x,y],#[t,f]⟩,ty,pos,aft,g⟩ (.int k (min p q)):=fun a w s _=>by
 simp[execOp,resolve,invoke,builtin,s.eval b,s.eval e,Builtin.min_,Builtin.min2]
 split<;>omega
theorem vR {fn:Fn} {cs:List Operand} {vs:List Value} (hc:cs.map (ev σ)=vs.map some):Y P c n σ M L ⟨d,.makeFunc fn #[] cs.toArray,ty,pos,aft,g⟩ (.func fn #[] vs.toArray):=fun a w s _=>by
 have:cs.map a.eval=vs:=by
  induction cs generalizing vs with
  |nil=>cases vs<;>simp_all
  |cons x cs b=>
   cases vs with
   |nil=>simp at hc
   |cons v vs=>simp at hc;simp[s.eval hc.1,b hc.2]
 simp[execOp,Instr.makeFunc,this]
end
end
section

def at' {a:Type} [Inhabited a] (xs:List a) (i:Int):a:=xs.getD i.toNat default
theorem jW {a:Type} [Inhabited a] {xs:List a} {i:Int} (b:0<=i) (h:i<xs.length):xs[i.toNat]? = some (at' xs i):=by
 unfold at'
 rw[List.getD_eq_getElem?_getD,List.getElem?_eq_getElem (by omega)]
 rfl
theorem gG {a:Type} [Inhabited a] (xs:List a) (i:Nat):at' xs (i:Int)=xs.getD i default:=by simp[at']

def Ix (v:Value) (o:Nat):Addr:=match v with
 | .slice (some a) _ _=>a.add o
 |_=>⟨0,o,none⟩
def Cp (v:Value) (o:Nat):Value:= .pointer (some (Ix v o))
theorem JH (a:Addr) (o p:Nat):(a.add o).add p=a.add (o+p):=by
 unfold Addr.add
 by_cases b:o=0<;>by_cases c:p=0<;>simp[b,c,Nat.add_assoc]
theorem Gv (v:Value) (o p:Nat):(Ix v o).add p=Ix v (o+p):=by
 unfold Ix
 split
 ·exact JH _ _ _
 ·unfold Addr.add;split<;>simp_all
theorem dK (b a o:Nat):(⟨b,a,none⟩:Addr).add o=⟨b,a+o,none⟩:=by
 unfold Addr.add;split<;>simp_all

def bS (b:Nat) (cs:List Value) (T:TypeId):aX where
 p w F:=F b∧w.heap[b]? = some (.cells cs.toArray T (0,0))
 mono:=fun⟨c,a⟩ h=>by
  obtain⟨d,e⟩:=h b c (Array.getElem?_eq_some_iff.1 a).1
  exact⟨d,by rw[e];exact a⟩
theorem bS.cell {b:Nat} {cs:List Value} {T:TypeId} {w:World} {F:Nat->Prop} (h:(bS b cs T).p w F) {o:Nat} {v:Value} (a:cs[o]? = some v):w.cell? ⟨b,o,none⟩=some v:=by
 simp[World.cell?,h.2,a]
theorem KW {b:Nat} {cs:List Value} {T:TypeId} {w:World} {F:Nat->Prop} (h:(bS b cs T).p w F) (o:Nat):w.frozen? ⟨b,o,none⟩=false:=by
 simp[World.frozen?,h.2]
theorem St.res {c:tP} {M L:List aX} {w:World} (t:St c M L w) {i:Nat} {m:aX} (h:M[i]? = some m):∃F,m.p w F:=by
 obtain⟨_,F,a,_⟩:=t
 exact⟨_,a.res i m h⟩
theorem St.fact {c:tP} {M L:List aX} {w:World} (t:St c M L w) {f:aX} (h:f∈L):∃S,f.p w S:=by
 obtain⟨_,F,_,a⟩:=t
 exact⟨_,a f h⟩

structure eH (α:Type) where
 sz:Nat
 pos:0<sz
 R:World->(Nat->Prop)->List Value->α->Prop
 len:∀{w S cs x},R w S cs x->cs.length=sz
 mono:∀{w w':World} {S S':Nat->Prop} {cs x},R w S cs x->(∀k,S k->k<w.heap.size->S' k∧w'.heap[k]? = w.heap[k]?)->R w' S' cs x
def Gs {f:Type} (r:eH f) (w:World) (S:Nat->Prop) (v:Value) (xs:List f):Prop:=
 ∃a cap,v = .slice a xs.length cap∧(xs.length<=9223372036854775807∧xs.length<=cap)∧(xs=[]∨∃b c,a=some ⟨b,c,none⟩∧S b∧
  ∀i x,xs[i]? = some x->∃d,(∀j e,d[j]? = some e->w.cell? ⟨b,c+(i*r.sz+j),none⟩=some e)∧r.R w S d x)
theorem Qx {w w':World} {b o:Nat} {e:Value} (h:w.cell? ⟨b,o,none⟩=some e) (a:w'.heap[b]? = w.heap[b]?):w'.cell? ⟨b,o,none⟩=some e:=by
 rw[<-h];exact World.cell?_of_block a
theorem N_ {w:World} {b o:Nat} {e:Value} (h:w.cell? ⟨b,o,none⟩=some e):b<w.heap.size:=World.block_lt_of_cell? w _ h
theorem Gs.mono {o:Type} {r:eH o} {w w':World} {S n:Nat->Prop} {v:Value} {xs:List o} (h:Gs r w S v xs)
  (e:∀k,S k->k<w.heap.size->n k∧w'.heap[k]? = w.heap[k]?):Gs r w' n v xs:=by
 obtain⟨a,cap,A,t,h⟩:=h
 refine⟨a,cap,A,t,?_⟩
 rcases h with h|⟨b,m,s,q,h⟩
 ·exact .inl h
 ·cases xs with
  |nil=>exact .inl rfl
  |cons D xs=>
   obtain⟨d,c,l⟩:=h 0 D rfl
   have E:=r.len l
   have y:=r.pos
   have p:d[0]? = some (d[0]'(by omega)):=List.getElem?_eq_getElem _
   have g:=N_ (c 0 _ p)
   obtain⟨f,B⟩:=e b q g
   refine .inr ⟨b,m,s,f,fun i x C=> ?_⟩
   obtain⟨d,c,l⟩:=h i x C
   exact⟨d,fun j u z=>Qx (c j u z) B,r.mono l e⟩
def Sl {a:Type} (r:eH a) (v:Value) (xs:List a):aX where
 p w S:=Gs r w S v xs
 mono:=fun h e=>h.mono e
def eH.int (k:IntKind):eH Int where
 sz:=1
 pos:=Nat.one_pos
 R _ _ cs x:=cs=[.int k x]
 len h:=by simp[h]
 mono h _:=h
def eH.sl {a:Type} (r:eH a):eH (Value×List a) where
 sz:=1
 pos:=Nat.one_pos
 R w S cs x:=cs=[x.1]∧Gs r w S x.1 x.2
 len h:=by simp[h.1]
 mono h e:=⟨h.1,h.2.mono e⟩
def eH.pair {f g:Type} (r:eH f) (s:eH g):eH (f×g) where
 sz:=r.sz+s.sz
 pos:=Nat.lt_of_lt_of_le r.pos (Nat.le_add_right _ _)
 R w S cs x:=∃a b,cs=a++b∧r.R w S a x.1∧s.R w S b x.2
 len h:=by obtain⟨a,b,hc,c,d⟩:=h;simp[hc,r.len c,s.len d]
 mono h e:=by obtain⟨a,b,hc,c,d⟩:=h;exact⟨a,b,hc,r.mono c e,s.mono d e⟩
def eH.Cell {a:Type} (r:eH a) (j:Nat) (f:a->Value):Prop:=∀{w S es x},r.R w S es x->es[j]? = some (f x)
theorem DR (k:IntKind):(eH.int k).Cell 0 (fun x=> .int k x):=fun h=>by simp[show _=[_]from h]
theorem eH.sl_cell {a:Type} (r:eH a):(eH.sl r).Cell 0 (fun x=>x.1):=fun h=>by simp[h.1]
theorem nW {b e:Type} {r:eH b} {s:eH e} {j:Nat} {f:b->Value} (h:r.Cell j f):(r.pair s).Cell j (fun x=>f x.1):=by
 rintro w S i x ⟨c,g,rfl,d,_⟩
 have:=h d
 rw[List.getElem?_append_left (by
  rcases Nat.lt_or_ge j c.length with a|a
  ·exact a
  ·rw[List.getElem?_eq_none a]at this;cases this)]
 exact this
theorem cO {d b:Type} {r:eH d} {s:eH b} {j:Nat} {f:b->Value} (h:s.Cell j f):(r.pair s).Cell (r.sz+j) (fun x=>f x.2):=by
 rintro w S i x ⟨e,g,rfl,a,c⟩
 rw[List.getElem?_append_right (by rw[r.len a];omega),r.len a,Nat.add_sub_cancel_left]
 exact h c

section
variable {P:Program} {rd:Option Nat} {c:tP} {n:Sz} {σ:Fr} {M L:List aX}
variable {d:Option Tmp} {ty:TypeId} {pos:String} {aft:Array Edge} {g:Option (Nat×Bool)}
variable {α:Type} {r:eH α}
theorem KB {T:TypeId} {b:Ty} {E:TypeId} (w:World) (e:qL P T b) (f:b.desc = .slice E) (a:Option Addr) (k cap:Nat) (ty:TypeId):
  (Builtin.len_ #[T] ty #[.slice a k cap]).run P w = .ok (.int .i64 k) w:=by
 simp[Builtin.len_,e.run_und w,f,goInt]
theorem Fv {T:TypeId} {E:TypeId} {f e:Ty} (w:World) (m:qL P T f) (o:f.desc = .slice E) (l:qL P E e) (b a k cap:Nat) (i:Int) (h:0<=i) (j:i<k):
  (Instr.indexAt T (.slice (some ⟨b,a,none⟩) k cap) (.int .i64 i)).run P w = .ok (Cp (.slice (some ⟨b,a,none⟩) k cap) (i.toNat*e.size)) w:=by
 simp[Instr.indexAt,asIntOf,m.run_und w,o,l.run_size w,h,j,Cp,Ix]
theorem jJ [cA P] {T:TypeId} {D E h F:Nat} {z H:Value} {i:Array Field} {B G C:String} {m:Bool} {j b k:Nat} {l:TypeDesc} {x:Operand} {v:Value} {o f:Nat} (A:ev σ x=some (Cp v o))
  (u:cA.tab P T=some ⟨.struct i,D,E,z⟩) (y:i[f]? = some ⟨B,j,b,m,G,C,k⟩) (q:cA.tab P j=some ⟨l,h,F,H⟩) (p:(h==0)=false):
  Y P c n σ M L ⟨d,.fieldAddr T x f,ty,pos,aft,g⟩ (Cp v (o+b)):=fun a w s t=>by
 have e:h≠0:=by simpa using p
 simp[execOp,s.eval A,Instr.fieldAt,(cA.ok u).run_und w,y,Instr.sureAddr,Cp,fieldPlace,(cA.ok q).run_size w,e,Gv]
theorem wD {T:TypeId} {a:Ty} {w:World} (b:qL P T a) (f:uA a.desc=false) {A:Addr} {e:Value} (h:w.cell? A=some e):
  (Instr.loadAt T (.pointer (some A))).run P w = .ok e w:=by
 simp[Instr.loadAt,Instr.sureAddr,loadVar,b.run_agg w,f,load,Sem.run,h]
theorem sl_cell {w:World} {S:Nat->Prop} {v:Value} {xs:List α} (h:Gs r w S v xs) {i:Nat} {x:α} (k:xs[i]? = some x):
  ∃a,r.R w S a x∧∀j e,a[j]? = some e->w.cell? (Ix v (i*r.sz+j))=some e:=by
 obtain⟨q,cap,o,_,h⟩:=h
 rcases h with h|⟨b,p,rfl,_,h⟩
 ·subst h;simp at k
 ·obtain⟨a,f,m⟩:=h i x k
  refine⟨a,m,fun j e l=> ?_⟩
  subst o
  simp only[Ix,dK]
  exact f j e l
end

section
variable {P:Program} {rd:Option Nat} {c:tP} {n:Sz} {σ:Fr} {M L:List aX} {Q:Exit->Act->World->Prop} {ops:Array Oper} {rest:List Oper}
variable {d:Option Tmp} {D:Nat} {ty:TypeId} {pos:String} {aft:Array Edge} {g:Option (Nat×Bool)}
theorem dD [cA P] {T:TypeId} {C E i F:Nat} {z H:Value} {j:Array Field} {A G B:String} {p:Bool} {k e l:Nat} {m:TypeDesc} {x:Operand} {b o f:Nat} (y:ev σ x=some (.pointer (some ⟨b,o,none⟩)))
  (u:cA.tab P T=some ⟨.struct j,C,E,z⟩) (v:j[f]? = some ⟨A,k,e,p,G,B,l⟩) (r:cA.tab P k=some ⟨m,i,F,H⟩) (q:(i==0)=false):
  Y P c n σ M L ⟨d,.fieldAddr T x f,ty,pos,aft,g⟩ (.pointer (some ⟨b,o+e,none⟩)):=fun a w s t=>by
 have h:i≠0:=by simpa using q
 simp[execOp,s.eval y,Instr.fieldAt,(cA.ok u).run_und w,v,Instr.sureAddr,fieldPlace,(cA.ok r).run_size w,h,dK]
theorem d_ [cA P] (i:Nat) {T T':TypeId} {p q:Nat} {z:Value} {e:TypeDesc} {x:Operand} {b o:Nat} {cs:List Value} {v:Value} (m:ev σ x=some (.pointer (some ⟨b,o,none⟩)))
  (h:M[i]? = some (bS b cs T')) (j:cA.tab P T=some ⟨e,p,q,z⟩) (k:uA e=false) (l:cs[o]? = some v):
  Y P c n σ M L ⟨d,.load T x,ty,pos,aft,g⟩ v:=fun a w s t=>by
 obtain⟨F,f⟩:=t.res h
 simp[execOp,s.eval m,wD (cA.ok j) k (bS.cell f l)]
theorem xA {T:TypeId} {a:Ty} {w:World} (b:qL P T a) (e:uA a.desc=true) {A:Addr} {cs:List Value} (f:cs.length=a.size) (h:∀j v,cs[j]? = some v->w.cell? (A.add j)=some v):
  (Instr.loadAt T (.pointer (some A))).run P w = .ok (.agg cs.toArray) w:=by
 have:=run_loadCells_list (P:=P) w A cs h
 simp[Instr.loadAt,Instr.sureAddr,loadVar,b.run_agg w,e,b.run_size w,<-f,this]
theorem eF [cA P] (i:Nat) {T T':TypeId} {p:Nat} {z:Value} {e:TypeDesc} {x:Operand} {b:Nat} {cs:List Value} (o:ev σ x=some (.pointer (some ⟨b,0,none⟩)))
  (h:M[i]? = some (bS b cs T')) (k:cA.tab P T=some ⟨e,cs.length,p,z⟩) (l:uA e=true):
  Y P c n σ M L ⟨d,.load T x,ty,pos,aft,g⟩ (.agg cs.toArray):=fun a w s t=>by
 obtain⟨F,f⟩:=t.res h
 have:=xA (w:=w) (A:=⟨b,0,none⟩) (cs:=cs) (cA.ok k) l rfl (fun j v m=>by rw[dK,Nat.zero_add];exact bS.cell f m)
 simp[execOp,s.eval o,this]
theorem St.alloc {w:World} (t:St c M L w) (cs:List Value) (T:TypeId):St c (bS w.heap.size cs T::M) L (w.alloc (.cells cs.toArray T)):=by
 have e:JJ w (w.alloc (.cells cs.toArray T)):=(Below.refl _ _).alloc (Nat.le_refl _) _
 obtain⟨s,F,a,u⟩:=t
 have r:∀k,k<w.heap.size->(w.alloc (.cells cs.toArray T)).heap[k]? = w.heap[k]? := e.block
 refine⟨s.trans e,fun i k=>match i with|0=>k=w.heap.size|i+1=>F i k,⟨?_,?_,?_⟩,fun f v=> ?_⟩
 ·intro i m q
  cases i with
  |zero=>
   simp at q;subst q
   exact⟨rfl,heap_alloc_new w _⟩
  |succ i=>exact aX.same (a.res i m (by simpa using q)) (fun _ h=>h) (fun k _ p=>r k p)
 ·intro i k l
  cases i with
  |zero=>subst l;exact⟨.inl s.size,by simp⟩
  |succ i=>exact⟨(a.rng i k l).1,Nat.lt_of_lt_of_le (a.rng i k l).2 e.size⟩
 ·intro i j k b o
  cases i with
  |zero=>
   cases j with
   |zero=>rfl
   |succ j=>have:=(a.rng j k o).2;simp only at b;omega
  |succ i=>
   cases j with
   |zero=>have:=(a.rng i k b).2;simp only at o;omega
   |succ j=>exact congrArg (· + 1) (a.dis i j k b o)
 ·exact f.mono (u f v) fun k l p=>⟨⟨l.1,fun i b=>by
   cases i with
   |zero=>simp only at b;omega
   |succ i=>exact l.2 i b⟩,r k p⟩
theorem Fu {T:TypeId} {a:Ty} (w:World) (b:qL P T a):(Instr.alloc T true (.tuple #[])).run P w = .ok (.pointer (some ⟨w.heap.size,0,none⟩)) (w.alloc (.cells a.zero.cells T)):=by
 simp[Instr.alloc,b.run_zero w,newVar,newRow]
theorem Ck {w w':World} {F:Nat->Nat->Prop} (s:Ae c.O c.w0 w) (l:W_ c w M F) (R:∀f∈L,f.p w (CJ c F)) {i:Nat} {m N:aX} (K:M[i]? = some m) (H:w'.os=w.os) (I:w'.tape=w.tape) (u:w'.output=w.output) (t:w.heap.size<=w'.heap.size)
  (A:∀k,k<w.heap.size->¬F i k->w'.heap[k]? = w.heap[k]?) {F':Nat->Prop} (z:N.p w' F') (b:∀k,F' k->F i k∨(w.heap.size<=k∧k<w'.heap.size)):St c (M.set i N) L w':=by
 refine⟨⟨H.trans s.os,I.trans s.tape,u.trans s.output,Nat.le_trans s.size t,fun k a J=>(A k (Nat.lt_of_lt_of_le a s.size) (fun C=>(l.rng i k C).1.elim (fun h=>by omega) J)).trans (s.block k a J)⟩,fun j k=>(j=i∧F' k)∨(j≠i∧F j k),⟨?_,?_,?_⟩,fun f S=> ?_⟩
 ·intro j T v
  by_cases e:j=i
  ·subst e
   have G:j<M.length:=by
    rcases Nat.lt_or_ge j M.length with o|o
    ·exact o
    ·rw[List.getElem?_eq_none o]at K;cases K
   rw[List.getElem?_set_self G]at v
   cases v
   exact aX.same z (fun k a=> .inl ⟨rfl,a⟩) (fun _ _ _=>rfl)
  ·rw[List.getElem?_set_ne (Ne.symm e)]at v
   exact aX.same (l.res j T v) (fun k a=> .inr ⟨e,a⟩) (fun k a E=>A k E (fun B=>e (l.dis j i k a B)))
 ·rintro j k (⟨_,a⟩|⟨_,a⟩)
  ·rcases b k a with a|⟨q,r⟩
   ·exact⟨(l.rng i k a).1,Nat.lt_of_lt_of_le (l.rng i k a).2 t⟩
   ·exact⟨.inl (Nat.le_trans s.size q),r⟩
  ·exact⟨(l.rng j k a).1,Nat.lt_of_lt_of_le (l.rng j k a).2 t⟩
 ·rintro U V k (⟨x,q⟩|⟨x,q⟩) (⟨y,r⟩|⟨y,r⟩)
  ·rw[x,y]
  ·rcases b k q with q|⟨q,_⟩
   ·exact absurd (l.dis _ _ k r q) y
   ·have:=(l.rng _ k r).2;omega
  ·rcases b k r with r|⟨r,_⟩
   ·exact absurd (l.dis _ _ k q r) x
   ·have:=(l.rng _ k q).2;omega
  ·exact l.dis _ _ k q r
 ·exact f.mono (R f S) fun k a E=>⟨⟨a.1,by
   rintro j (⟨_,o⟩|⟨_,o⟩)
   ·rcases b k o with o|⟨o,_⟩
    ·exact a.2 _ o
    ·omega
   ·exact a.2 _ o⟩,A k E (a.2 i)⟩
theorem St.upd {w w':World} (t:St c M L w) {i:Nat} {m r:aX} (q:M[i]? = some m) (j:w'.os=w.os) (o:w'.tape=w.tape) (a:w'.output=w.output) (l:w.heap.size<=w'.heap.size)
  (h:∀F,m.p w F->(∀k,F k->c.mine k∧k<w.heap.size)->(∀k,k<w.heap.size->¬F k->w'.heap[k]? = w.heap[k]?)∧∃F',r.p w' F'∧∀k,F' k->F k∨(w.heap.size<=k∧k<w'.heap.size)):
  St c (M.set i r) L w':=by
 obtain⟨v,F,e,s⟩:=t
 obtain⟨u,F',f,b⟩:=h (F i) (e.res i m q) (e.rng i)
 exact Ck v e s q j o a l u f b
end
end
section
section
variable {P:Program} {rd:Option Nat} {c:tP} {n:Sz} {σ:Fr} {M L:List aX} {Q:Exit->Act->World->Prop} {ops:Array Oper} {rest:List Oper}
variable {d:Option Tmp} {D:Nat} {ty:TypeId} {pos:String} {aft:Array Edge} {g:Option (Nat×Bool)}
def one:Value->Bool
 | .agg _ | .tuple _=>false
 |_=>true
@[simp] theorem Zz (a:Option Addr) (k c:Nat):one (.slice a k c)=true:=rfl
@[simp] theorem aaU (k:IntKind) (x:Int):one (.int k x)=true:=rfl
theorem cY {v:Value} (h:one v=true):v.cells = #[v]:=by cases v<;>first|rfl|cases h
theorem lC {v:Value} (h:one v=true):v.oneCell'=true:=by cases v<;>first|rfl|cases h
theorem Eg {w:World} {b o:Nat} {cs:List Value} {T:TypeId} (h:w.heap[b]? = some (.cells cs.toArray T (0,0))) (v:Value):
  (w.setCell ⟨b,o,none⟩ v).heap[b]? = some (.cells (cs.set o v).toArray T (0,0)):=by
 simp[World.setCell,Array.getElem?_modify,h]
theorem St.store {w:World} (t:St c M L w) {i b o:Nat} {cs:List Value} {T:TypeId} (f:M[i]? = some (bS b cs T)) (v:Value):
  St c (M.set i (bS b (cs.set o v) T)) L (w.setCell ⟨b,o,none⟩ v):=
 t.upd f rfl rfl rfl (by simp[World.setCell]) fun F a _=>⟨fun k _ j=>Below.heap_setCell _ _ _ _ (fun e=>j (by simp only at e;subst e;exact a.1)),
  F,⟨a.1,Eg a.2 v⟩,fun _ h=> .inl h⟩
theorem A_ {T:TypeId} {b:Ty} {w:World} (j:qL P T b) (l:b.size=1) {A:Addr} {v e:Value} (f:one v=true) (h:w.cell? A=some e) (k:w.frozen? A=false):
  (Instr.storeAt T (.pointer (some A)) v).run P w = .ok () (w.setCell A v):=by
 have i:A.add 0=A:=rfl
 have a:(store A v).run P w = .ok () (w.setCell A v):=by
  unfold store
  cases v<;>first|(simp only[Sem.run,h,k];rfl)|cases f
 simp only[Instr.storeAt,Instr.sureAddr,storeVar,cY f]
 simp[j.run_size w,l,storeCells,i,a]
theorem fY [cA P] (i:Nat) {T T':TypeId} {A:Nat} {z:Value} {l:TypeDesc} {x y:Operand} {b o:Nat} {cs:List Value} {v:Value} (r:ev σ x=some (.pointer (some ⟨b,o,none⟩)))
  (u:ev σ y=some v) (q:one v=true) (k:M[i]? = some (bS b cs T')) (m:cA.tab P T=some ⟨l,1,A,z⟩) (p:Nat.blt o cs.length=true)
  (h:J c n σ (M.set i (bS b (cs.set o v) T')) L (wpList P ops Q rest)):
  J c n σ M L (wpList P ops Q (⟨none,.store T x y,ty,pos,aft,none⟩::rest)):=fun a w s t=>by
 refine kC rfl ?_
 obtain⟨F,j⟩:=t.res k
 have f:o<cs.length:=by simpa [Nat.blt_eq]using p
 have e:(execOp a.eval ⟨none,.store T x y,ty,pos,aft,none⟩).run P w = .ok .skip (w.setCell ⟨b,o,none⟩ v):=by
  simp[execOp,s.eval r,s.eval u,A_ (cA.ok m) rfl q (bS.cell j (List.getElem?_eq_getElem f)) (KW j o)]
 simp only[Oper.wp,e,Oper.upon]
 exact h _ _ s (t.store k v)
theorem St.fill {w:World} (t:St c M L w) {i b:Nat} {cs a:List Value} {T:TypeId} (j:M[i]? = some (bS b cs T)):
  St c (M.set i (bS b a T)) L (w.setRow b a.toArray):=
 t.upd j rfl rfl rfl (by simp) fun F f _=>⟨fun k _ l=>setRow_other w b k _ (fun e=>l (by subst e;exact f.1)),
  F,⟨f.1,setRow_heap w b _ _ T _ f.2⟩,fun _ h=> .inl h⟩
theorem aY [cA P] (i:Nat) {T T':TypeId} {G:Nat} {z:Value} {q:TypeDesc} {x y:Operand} {b:Nat} {cs vs:List Value} (C:ev σ x=some (.pointer (some ⟨b,0,none⟩)))
  (E:ev σ y=some (.agg vs.toArray)) (B:vs.all one=true) (p:M[i]? = some (bS b cs T')) (u:cA.tab P T=some ⟨q,vs.length,G,z⟩) (A:Nat.beq vs.length cs.length=true)
  (h:J c n σ (M.set i (bS b vs T')) L (wpList P ops Q rest)):
  J c n σ M L (wpList P ops Q (⟨none,.store T x y,ty,pos,aft,none⟩::rest)):=fun a w s t=>by
 refine kC rfl ?_
 obtain⟨F,r⟩:=t.res p
 have e:vs.length=cs.length:=Nat.eq_of_beq_eq_true A
 have f:∀v∈vs,v.oneCell'=true:=fun v o=>lC (by simpa using List.all_eq_true.1 B v o)
 obtain⟨H,k,m,_,_⟩:=(cA.ok u).info
 have l:=run_storeVar_row (P:=P) w b T' T cs.toArray vs.toArray r.2 (by simp[k,m]) (by simp[e]) (by simpa using f)
 have j:(execOp a.eval ⟨none,.store T x y,ty,pos,aft,none⟩).run P w = .ok .skip (w.setRow b vs.toArray):=by
  simp[execOp,s.eval C,s.eval E,Instr.storeAt,Instr.sureAddr,l]
 simp only[Oper.wp,j,Oper.upon]
 exact h _ _ s (t.fill p)

def aV (P:Program) (f:FuncId) (args:Array Value) (L:List aX) {A:Type} (a:A->Value) (j LO:A->List aX->List aX):Prop:=
 ∀(b:World) (i:Nat->Prop),(∀h∈L,h.p b i)->Calls P f args b fun e w'=>∃x:A,e = .returned (a x)∧St ⟨b,i,fun _=>False⟩ (j x []) (LO x []) w'
def aao (m:Nat) (F' F:Nat->Nat->Prop) (i k:Nat):Prop:=(i<m∧F' i k)∨(m<=i∧F (i - m) k)
theorem W_.new {w:World} {M:List aX} {F:Nat->Nat->Prop} {a:World} {b:Nat->Prop} (h:W_ ⟨a,b,fun _=>False⟩ w M F) {i k:Nat} (e:F i k):a.heap.size<=k:=by
 rcases(h.rng i k e).1 with h|h
 ·exact h
 ·exact h.elim
theorem St.call {w w':World} {v C:List aX} {F:Nat->Nat->Prop} (B:Ae c.O c.w0 w) (q:W_ c w M F) (G:∀f∈L,f.p w (CJ c F))
  (t:St ⟨w,CJ c F,fun _=>False⟩ v C w'):St c (v++M) (C++L) w':=by
 obtain⟨o,F',a,y⟩:=t
 have o:=o.ext
 have E:=o.block
 refine⟨B.trans o,aao v.length F' F,⟨?_,?_,?_⟩,fun f hf=> ?_⟩
 ·intro i m x
  by_cases e:i<v.length
  ·rw[List.getElem?_append_left e]at x
   exact aX.same (a.res i m x) (fun k b=> .inl ⟨e,b⟩) (fun _ _ _=>rfl)
  ·rw[List.getElem?_append_right (by omega)]at x
   exact aX.same (q.res _ m x) (fun k b=> .inr ⟨by omega,b⟩) (fun k _ z=>E k z)
 ·rintro i k (⟨_,b⟩|⟨_,b⟩)
  ·exact⟨.inl (Nat.le_trans B.size (a.new b)),(a.rng i k b).2⟩
  ·exact⟨(q.rng _ k b).1,Nat.lt_of_lt_of_le (q.rng _ k b).2 o.size⟩
 ·rintro i j k (⟨e,r⟩|⟨e,r⟩) (⟨H,s⟩|⟨H,s⟩)
  ·exact a.dis i j k r s
  ·have:=a.new r;have:=(q.rng _ k s).2;simp only at *;omega
  ·have:=a.new s;have:=(q.rng _ k r).2;simp only at *;omega
  ·have:=q.dis _ _ k r s;omega
 ·rcases List.mem_append.1 hf with hf|hf
  ·refine aX.same (y f hf) (fun k b=> ?_) (fun _ _ _=>rfl)
   obtain⟨u,A⟩:=b
   have l:CJ c F k∨w.heap.size<=k:=by
    rcases u with h|h|h
    ·exact .inl h
    ·exact .inr h
    ·exact h.elim
   refine⟨?_,?_⟩
   ·rcases l with h|h
    ·exact h.1
    ·exact .inr (.inl (Nat.le_trans B.size h))
   ·rintro i (⟨_,e⟩|⟨_,e⟩)
    ·exact A i e
    ·rcases l with h|h
     ·exact h.2 _ e
     ·have:=(q.rng _ k e).2;omega
  ·refine f.mono (G f hf) fun k b z=>⟨⟨b.1,?_⟩,E k z⟩
   rintro i (⟨_,e⟩|⟨_,e⟩)
   ·have:=a.new e;omega
   ·exact b.2 _ e
theorem YF {xs:List Operand} {vs:List Value} {a:Act} (s:Dl n σ a) (h:xs.map (ev σ)=vs.map some):xs.map a.eval=vs:=by
 induction xs generalizing vs with
 |nil=>cases vs<;>simp_all
 |cons x xs b=>
  cases vs with
  |nil=>simp at h
  |cons v vs=>simp at h;simp[s.eval h.1,b h.2]
def aO (P:Program) (f:FuncId):Prop:=∀args w,(callFunc f args).run P w = .ok (.enter f args) w

def Lk {A:Type} (c:tP) (a:A->Value) (b LO:A->List aX->List aX) (e:Ending) (w:World):Prop:=∃x:A,e = .returned (a x)∧St c (b x []) (LO x []) w
def vY:Nat->List Value->Fr
 |_,[]=>[]
 |k,v::vs=>(k,v)::vY (k+1) vs
theorem BI (vs:List Value):∀k t v,lk (vY k vs) t=some v->k<=t∧vs[t - k]? = some v:=by
 induction vs with
 |nil=>intro k t v h;simp[vY,lk]at h
 | cons u vs ih =>
  intro k t v h
  simp only[vY,lk]at h
  by_cases e:t=k
  ·subst e;simp at h;subst h;simp
  ·rw[lL e]at h
   obtain⟨b,a⟩:=ih (k+1) t v h
   refine⟨by omega,?_⟩
   have:t - k=(t - (k+1))+1:=by omega
   rw[this,List.getElem?_cons_succ];exact a
theorem aV.of {A:Type} {b:A->Value} {r LO:A->List aX->List aX} {f:FuncId} {fn:Func} {a:Code} {vs:List Value} {m:Nat}
  (o:P.funcs[f]? = some fn) (w:fn.body=some a) (z:fn.ntmps=m) (y:Nat.ble vs.length m=true)
  (h:∀c:tP,J c ⟨m,[]⟩ (vY 0 vs) [] L (a.wpr none P (fZ P fn (Lk c b r LO)))):aV P f vs.toArray L b r LO:=fun C s u=>by
 have p:vs.length<=m:=by simpa using y
 refine rD o w (h ⟨C,s,fun _=>False⟩ _ _ ⟨rfl,by simp[z,p],?_⟩ ⟨Ae.refl _,fun _ _=>False,⟨?_,?_,?_⟩,?_⟩)
 ·intro t v B
  obtain⟨_,e⟩:=BI vs 0 t v B
  rw[Nat.sub_zero]at e
  have q:t<vs.length:=by
   rcases Nat.lt_or_ge t vs.length with l|l
   ·exact l
   ·rw[List.getElem?_eq_none l]at e;cases e
  rw[Array.getElem?_append_left (by simpa using q)]
  simpa using e
 ·intro i m h;simp at h
 ·intro i k h;exact h.elim
 ·intro i j k h;exact h.elim
 ·intro f o
  exact aX.same (u f o) (fun k x=>⟨.inl x,fun _ h=>h⟩) (fun _ _ _=>rfl)
theorem Xw {A:Type} {b:A->Value} {i LO:A->List aX->List aX} {fn:Func} (x:A) (e:Exit) (l:e = .ret∨e = .normal)
  (m:∀a w,Dl n σ a->St c M L w->(results fn a.tmps).run P w = .ok (b x) w) (k:aS M (i x [])) (j:∀f∈LO x [],f∈L) (h:n.ds=[]:=by rfl):
  J c n σ M L (fZ P fn (Lk c b i LO) e):=fun a w s t=>
 body_end l (s.defers.trans h) (m a w s t) ⟨x,rfl,t.weak k j⟩
theorem Ur [cA P] {T T':TypeId} {l:Nat} {z:Value} {a:TypeDesc} {w:World} {b:Nat} {cs:List Value} {F:Nat->Prop} (f:(bS b cs T').p w F)
  (e:cA.tab P T=some ⟨a,cs.length,l,z⟩) (h:uA a=true):(loadVar T ⟨b,0,none⟩).run P w = .ok (.agg cs.toArray) w:=by
 have i:=run_loadCells_list (P:=P) w ⟨b,0,none⟩ cs (fun j v k=>by rw[dK,Nat.zero_add];exact bS.cell f k)
 simp[loadVar,(cA.ok e).run_agg w,h,(cA.ok e).run_size w,i]
end
end
end Go.Sx
end
section
namespace Go.Sx
open Go.Proofs
theorem YI {P:Program} {T:Nat} {i:TypeInfo} (h:P.types[T]? = some i):P.info? T=some i:=by
 unfold Tables.info?
 rw[if_pos (Array.getElem?_eq_some_iff.1 h).1];exact h
noncomputable def zOf (i:TypeInfo):Value:=i.zero.getD (.tuple #[])
noncomputable def bB (d:TypeDesc) (s b:Nat) (i:TypeInfo):Ty:=⟨d,s,b,zOf i⟩
noncomputable def y2:=bB Tryz.t2.desc 1 8 Tryz.t2
noncomputable def y3:=bB Tryz.t2.desc 1 8 Tryz.t3
noncomputable def y4:=bB Tryz.t4.desc 1 1 Tryz.t4
noncomputable def y5:=bB Tryz.t5.desc 1 1 Tryz.t5
noncomputable def y6:=bB Tryz.t5.desc 1 1 Tryz.t6
noncomputable def y7:=bB Tryz.t7.desc 4 24 Tryz.t7
noncomputable def y8:=bB Tryz.t7.desc 4 24 Tryz.t8
noncomputable def y9:=bB Tryz.t9.desc 1 16 Tryz.t9
noncomputable def y10:=bB Tryz.t9.desc 1 16 Tryz.t10
noncomputable def y11:=bB Tryz.t9.desc 1 16 Tryz.t11
noncomputable def y12:=bB Tryz.t12.desc 1 8 Tryz.t12
noncomputable def y13:=bB Tryz.t13.desc 2 24 Tryz.t13
noncomputable def y14:=bB Tryz.t13.desc 2 24 Tryz.t14
noncomputable def y15:=bB Tryz.t15.desc 1 8 Tryz.t15
noncomputable def y16:=bB Tryz.t16.desc 1 8 Tryz.t16
noncomputable def y17:=bB Tryz.t17.desc 1 8 Tryz.t17
noncomputable def y18:=bB Tryz.t18.desc 1 8 Tryz.t18
noncomputable def y19:=bB Tryz.t18.desc 1 8 Tryz.t19
noncomputable def y20:=bB Tryz.t20.desc 1 16 Tryz.t20
noncomputable def y21:=bB Tryz.t21.desc 1 4 Tryz.t21
noncomputable def y22:=bB Tryz.t22.desc 1 24 Tryz.t22
noncomputable def y23:=bB Tryz.t23.desc 6 88 Tryz.t23
noncomputable def y24:=bB Tryz.t23.desc 6 88 Tryz.t24
noncomputable def y25:=bB Tryz.t25.desc 1 24 Tryz.t25
noncomputable def y26:=bB Tryz.t26.desc 1 24 Tryz.t26
noncomputable def y27:=bB Tryz.t27.desc 2 48 Tryz.t27
noncomputable def y28:=bB Tryz.t27.desc 2 48 Tryz.t28
noncomputable def y29:=bB Tryz.t29.desc 1 8 Tryz.t29
noncomputable def y30:=bB Tryz.t30.desc 1 24 Tryz.t30
noncomputable def y32:=bB Tryz.t32.desc 1 8 Tryz.t32
noncomputable def y33:=bB Tryz.t33.desc 1 8 Tryz.t33
noncomputable def y34:=bB Tryz.t34.desc 1 8 Tryz.t34
noncomputable def y35:=bB Tryz.t35.desc 1 24 Tryz.t35
noncomputable def y36:=bB Tryz.t36.desc 1 8 Tryz.t36
noncomputable def y37:=bB Tryz.t37.desc 1 8 Tryz.t37
noncomputable def y38:=bB Tryz.t38.desc 1 8 Tryz.t38
noncomputable def y39:=bB Tryz.t39.desc 1 24 Tryz.t39
noncomputable def y40:=bB Tryz.t40.desc 3 64 Tryz.t40
noncomputable def y41:=bB Tryz.t40.desc 3 64 Tryz.t41
noncomputable def y42:=bB Tryz.t42.desc 1 8 Tryz.t42
noncomputable def y43:=bB Tryz.t43.desc 1 8 Tryz.t43
noncomputable def y44:=bB Tryz.t44.desc 1 8 Tryz.t44
noncomputable def y45:=bB Tryz.t2.desc 1 8 Tryz.t45
noncomputable def y47:=bB Tryz.t47.desc 1 8 Tryz.t47
noncomputable def y49:=bB Tryz.t49.desc 1 8 Tryz.t49
noncomputable def y50:=bB Tryz.t50.desc 1 4 Tryz.t50
noncomputable def y51:=bB Tryz.t51.desc 1 8 Tryz.t51
noncomputable def y52:=bB Tryz.t52.desc 1 8 Tryz.t52
noncomputable def y53:=bB Tryz.t53.desc 6 64 Tryz.t53
noncomputable def y54:=bB Tryz.t53.desc 6 64 Tryz.t54
noncomputable def y56:=bB Tryz.t56.desc 1 8 Tryz.t56
noncomputable def y57:=bB Tryz.t57.desc 1 8 Tryz.t57
noncomputable def y58:=bB Tryz.t12.desc 1 8 Tryz.t58
noncomputable def y59:=bB Tryz.t59.desc 1 8 Tryz.t59
noncomputable def y60:=bB Tryz.t60.desc 1 8 Tryz.t60
noncomputable def y61:=bB Tryz.t61.desc 5 40 Tryz.t61
noncomputable def y62:=bB Tryz.t61.desc 5 40 Tryz.t62
noncomputable def y63:=bB Tryz.t63.desc 8 112 Tryz.t63
noncomputable def y64:=bB Tryz.t63.desc 8 112 Tryz.t64
noncomputable def y66:=bB Tryz.t66.desc 1 8 Tryz.t66
noncomputable def y67:=bB Tryz.t67.desc 6 56 Tryz.t67
noncomputable def y68:=bB Tryz.t67.desc 6 56 Tryz.t68
noncomputable def y69:=bB Tryz.t69.desc 1 24 Tryz.t69
noncomputable def y70:=bB Tryz.t70.desc 1 8 Tryz.t70
noncomputable def y71:=bB Tryz.t71.desc 1 8 Tryz.t71
noncomputable def y72:=bB Tryz.t72.desc 1 8 Tryz.t72
noncomputable def y74:=bB Tryz.t74.desc 1 8 Tryz.t74
noncomputable def y75:=bB Tryz.t75.desc 1 8 Tryz.t75
noncomputable def y76:=bB Tryz.t76.desc 2 16 Tryz.t76
noncomputable def y77:=bB Tryz.t76.desc 2 16 Tryz.t77
noncomputable def y78:=bB Tryz.t78.desc 1 8 Tryz.t78
noncomputable def y79:=bB Tryz.t79.desc 2 16 Tryz.t79
noncomputable def y80:=bB Tryz.t80.desc 4 32 Tryz.t80
noncomputable def y82:=bB Tryz.t82.desc 1 8 Tryz.t82
noncomputable def y83:=bB Tryz.t83.desc 1 8 Tryz.t83
noncomputable def y84:=bB Tryz.t84.desc 1 8 Tryz.t84
noncomputable def y85:=bB Tryz.t85.desc 1 8 Tryz.t85
noncomputable def y86:=bB Tryz.t86.desc 1 8 Tryz.t86
noncomputable def y87:=bB Tryz.t87.desc 1 8 Tryz.t87
noncomputable def y88:=bB Tryz.t88.desc 1 8 Tryz.t88
noncomputable def y89:=bB Tryz.t89.desc 1 24 Tryz.t89
noncomputable def y90:=bB Tryz.t90.desc 1 8 Tryz.t90
noncomputable def y91:=bB Tryz.t91.desc 1 8 Tryz.t91
noncomputable def y92:=bB Tryz.t92.desc 1 8 Tryz.t92
noncomputable def y93:=bB Tryz.t93.desc 1 24 Tryz.t93
noncomputable def y94:=bB Tryz.t94.desc 1 8 Tryz.t94
noncomputable def y95:=bB Tryz.t95.desc 1 8 Tryz.t95
noncomputable def y96:=bB Tryz.t96.desc 1 8 Tryz.t96
noncomputable def y97:=bB Tryz.t97.desc 1 8 Tryz.t97
noncomputable def y99:=bB Tryz.t99.desc 1 8 Tryz.t99
noncomputable def adf:=bB Tryz.t100.desc 1 8 Tryz.t100
noncomputable def adg:=bB Tryz.t101.desc 1 8 Tryz.t101
noncomputable def adh:=bB Tryz.t25.desc 1 24 Tryz.t102
noncomputable def adi:=bB Tryz.t103.desc 1 8 Tryz.t103
noncomputable def adj:=bB Tryz.t104.desc 5 56 Tryz.t104
noncomputable def adk:=bB Tryz.t104.desc 5 56 Tryz.t105
noncomputable def adl:=bB Tryz.t106.desc 1 8 Tryz.t106
noncomputable def adm:=bB Tryz.t107.desc 1 8 Tryz.t107
noncomputable def adn:=bB Tryz.t108.desc 1 8 Tryz.t108
noncomputable def ado:=bB Tryz.t109.desc 1 8 Tryz.t109
noncomputable def adp:=bB Tryz.t109.desc 1 8 Tryz.t110
noncomputable def adq:=bB Tryz.t111.desc 1 8 Tryz.t111
noncomputable def adr:=bB Tryz.t112.desc 1 24 Tryz.t112
noncomputable def ads:=bB Tryz.t114.desc 1 8 Tryz.t114
noncomputable def adt:=bB Tryz.t115.desc 1 8 Tryz.t115
noncomputable def adu:=bB Tryz.t116.desc 1 24 Tryz.t116
noncomputable def adv:=bB Tryz.t117.desc 3 64 Tryz.t117
noncomputable def adw:=bB Tryz.t117.desc 3 64 Tryz.t118
noncomputable def adx:=bB Tryz.t119.desc 7 152 Tryz.t119
noncomputable def ady:=bB Tryz.t119.desc 7 152 Tryz.t120
noncomputable def adz:=bB Tryz.t122.desc 1 8 Tryz.t122
noncomputable def adA:=bB Tryz.t123.desc 1 8 Tryz.t123
noncomputable def adB:=bB Tryz.t124.desc 1 8 Tryz.t124
noncomputable def adC:=bB Tryz.t125.desc 1 8 Tryz.t125
noncomputable def adD:=bB Tryz.t126.desc 1 8 Tryz.t126
noncomputable def adE:=bB Tryz.t128.desc 1 8 Tryz.t128
noncomputable def adF:=bB Tryz.t129.desc 1 8 Tryz.t129
noncomputable def adG:=bB Tryz.t130.desc 1 8 Tryz.t130
noncomputable def adH:=bB Tryz.t131.desc 1 8 Tryz.t131
noncomputable def adI:=bB Tryz.t132.desc 1 8 Tryz.t132
noncomputable def adJ:=bB Tryz.t133.desc 5 96 Tryz.t133
noncomputable def adK:=bB Tryz.t133.desc 5 96 Tryz.t134
noncomputable def adL:=bB Tryz.t135.desc 1 8 Tryz.t135
noncomputable def adM:=bB Tryz.t136.desc 1 8 Tryz.t136
noncomputable def adN:=bB Tryz.t137.desc 1 8 Tryz.t137
noncomputable def adO:=bB Tryz.t138.desc 24 192 Tryz.t138
noncomputable def adP:=bB Tryz.t139.desc 1 8 Tryz.t139
noncomputable def adQ:=bB Tryz.t140.desc 1 8 Tryz.t140
noncomputable def adR:=bB Tryz.t141.desc 1 8 Tryz.t141
noncomputable def adS:=bB Tryz.t142.desc 1 8 Tryz.t142
noncomputable def adT:=bB Tryz.t143.desc 1 8 Tryz.t143
noncomputable def adU:=bB Tryz.t144.desc 1 8 Tryz.t144
noncomputable def adV:=bB Tryz.t145.desc 1 8 Tryz.t145
noncomputable def adW:=bB Tryz.t146.desc 1 8 Tryz.t146
noncomputable def adX:=bB Tryz.t147.desc 4 32 Tryz.t147
noncomputable def adY:=bB Tryz.t147.desc 4 32 Tryz.t148
noncomputable def adZ:=bB Tryz.t150.desc 1 8 Tryz.t150
noncomputable def ad_:=bB Tryz.t151.desc 2 16 Tryz.t151
noncomputable def aea:=bB Tryz.t151.desc 2 16 Tryz.t152
noncomputable def aeb:=bB Tryz.t154.desc 1 8 Tryz.t154
noncomputable def aec:=bB Tryz.t155.desc 1 8 Tryz.t155
noncomputable def aed:=bB Tryz.t156.desc 1 8 Tryz.t156
noncomputable def aee:=bB Tryz.t157.desc 1 8 Tryz.t157
noncomputable def aef:=bB Tryz.t158.desc 1 8 Tryz.t158
noncomputable def aeg:=bB Tryz.t159.desc 1 8 Tryz.t159
noncomputable def aeh:=bB Tryz.t160.desc 1 24 Tryz.t160
noncomputable def aei:=bB Tryz.t161.desc 1 24 Tryz.t161
noncomputable def aej:=bB Tryz.t162.desc 3 64 Tryz.t162
noncomputable def aek:=bB Tryz.t162.desc 3 64 Tryz.t163
noncomputable def ael:=bB Tryz.t164.desc 1 8 Tryz.t164
noncomputable def aem:=bB Tryz.t165.desc 1 8 Tryz.t165
noncomputable def aen:=bB Tryz.t166.desc 1 8 Tryz.t166
noncomputable def aeo:=bB Tryz.t167.desc 1 8 Tryz.t167
noncomputable def aep:=bB Tryz.t168.desc 256 256 Tryz.t168
noncomputable def aeq:=bB Tryz.t169.desc 1 8 Tryz.t169
noncomputable def aer:=bB Tryz.t171.desc 1 8 Tryz.t171
noncomputable def aes:=bB Tryz.t172.desc 2 16 Tryz.t172
noncomputable def aet:=bB Tryz.t172.desc 2 16 Tryz.t173
noncomputable def aeu:=bB Tryz.t174.desc 1 24 Tryz.t174
noncomputable def aev:=bB Tryz.t175.desc 7 144 Tryz.t175
noncomputable def aew:=bB Tryz.t175.desc 7 144 Tryz.t176
noncomputable def aex:=bB Tryz.t177.desc 1 8 Tryz.t177
noncomputable def aey:=bB Tryz.t178.desc 1 8 Tryz.t178
noncomputable def aez:=bB Tryz.t179.desc 1 8 Tryz.t179
noncomputable def aeA:=bB Tryz.t181.desc 1 8 Tryz.t181
noncomputable def aeB:=bB Tryz.t182.desc 1 8 Tryz.t182
noncomputable def aeC:=bB Tryz.t184.desc 1 8 Tryz.t184
noncomputable def aeD:=bB Tryz.t185.desc 1 8 Tryz.t185
noncomputable def aeE:=bB Tryz.t185.desc 1 8 Tryz.t186
noncomputable def aeF:=bB Tryz.t187.desc 1 8 Tryz.t187
noncomputable def aeG:=bB Tryz.t188.desc 1 8 Tryz.t188
noncomputable def aeH:=bB Tryz.t189.desc 1 8 Tryz.t189
noncomputable def aeI:=bB Tryz.t190.desc 1 8 Tryz.t190
noncomputable def aeJ:=bB Tryz.t191.desc 1 8 Tryz.t191
noncomputable def aeK:=bB Tryz.t192.desc 1 8 Tryz.t192
noncomputable def aeL:=bB Tryz.t193.desc 1 8 Tryz.t193
noncomputable def aeM:=bB Tryz.t194.desc 1 8 Tryz.t194
noncomputable def aeN:=bB Tryz.t195.desc 1 8 Tryz.t195
noncomputable def aeO:=bB Tryz.t196.desc 1 8 Tryz.t196
noncomputable def aeP:=bB Tryz.t197.desc 1 8 Tryz.t197
noncomputable def aeQ:=bB Tryz.t198.desc 1 8 Tryz.t198
noncomputable def aeR:=bB Tryz.t199.desc 2 32 Tryz.t199
noncomputable def aeS:=bB Tryz.t199.desc 2 32 Tryz.t200
noncomputable def aeT:=bB Tryz.t201.desc 1 8 Tryz.t201
noncomputable def aeU:=bB Tryz.t202.desc 1 8 Tryz.t202
noncomputable def aeV:=bB Tryz.t203.desc 1 8 Tryz.t203
noncomputable def aeW:=bB Tryz.t204.desc 1 8 Tryz.t204
noncomputable def aeX:=bB Tryz.t205.desc 1 8 Tryz.t205
noncomputable def aeY:=bB Tryz.t206.desc 1 8 Tryz.t206
noncomputable def aeZ:=bB Tryz.t207.desc 1 8 Tryz.t207
noncomputable def ae_:=bB Tryz.t208.desc 1 8 Tryz.t208
noncomputable def afa:=bB Tryz.t209.desc 1 8 Tryz.t209
noncomputable def afb:=bB Tryz.t210.desc 1 8 Tryz.t210
noncomputable def afc:=bB Tryz.t211.desc 1 8 Tryz.t211
noncomputable def afd:=bB Tryz.t212.desc 1 8 Tryz.t212
noncomputable def afe:=bB Tryz.t213.desc 1 8 Tryz.t213
noncomputable def aff:=bB Tryz.t214.desc 1 8 Tryz.t214
noncomputable def afg:=bB Tryz.t215.desc 1 8 Tryz.t215
noncomputable def afh:=bB Tryz.t216.desc 1 8 Tryz.t216
noncomputable def afi:=bB Tryz.t217.desc 1 8 Tryz.t217
noncomputable def afj:=bB Tryz.t218.desc 2 16 Tryz.t218
noncomputable def afk:=bB Tryz.t218.desc 2 16 Tryz.t219
noncomputable def afl:=bB Tryz.t220.desc 1 8 Tryz.t220
noncomputable def afm:=bB Tryz.t221.desc 1 8 Tryz.t221
noncomputable def afn:=bB Tryz.t222.desc 2 48 Tryz.t222
noncomputable def afo:=bB Tryz.t222.desc 2 48 Tryz.t223
noncomputable def afp:=bB Tryz.t224.desc 1 8 Tryz.t224
noncomputable def afq:=bB Tryz.t225.desc 4 64 Tryz.t225
noncomputable def afr:=bB Tryz.t225.desc 4 64 Tryz.t226
noncomputable def afs:=bB Tryz.t227.desc 1 8 Tryz.t227
noncomputable def afu:=bB Tryz.t228.desc 32 32 Tryz.t228
noncomputable def afv:=bB Tryz.t229.desc 1 8 Tryz.t229
noncomputable def afw:=bB Tryz.t230.desc 1 24 Tryz.t230
noncomputable def afx:=bB Tryz.t231.desc 1 8 Tryz.t231
noncomputable def afy:=bB Tryz.t232.desc 1 8 Tryz.t232
noncomputable def afz:=bB Tryz.t233.desc 1 8 Tryz.t233
noncomputable def afA:=bB Tryz.t234.desc 3 24 Tryz.t234
noncomputable def afB:=bB Tryz.t235.desc 1 8 Tryz.t235
noncomputable def afC:=bB Tryz.t236.desc 1 8 Tryz.t236
noncomputable def afD:=bB Tryz.t237.desc 1 8 Tryz.t237
noncomputable def afE:=bB Tryz.t238.desc 1 8 Tryz.t238
noncomputable def afF:=bB Tryz.t239.desc 1 8 Tryz.t239
noncomputable def afG:=bB Tryz.t240.desc 1 8 Tryz.t240
noncomputable def afH:=bB Tryz.t241.desc 1 8 Tryz.t241
noncomputable def afI:=bB Tryz.t242.desc 1 8 Tryz.t242
noncomputable def afJ:=bB Tryz.t243.desc 1 8 Tryz.t243
noncomputable def afK:=bB Tryz.t244.desc 1 8 Tryz.t244
noncomputable def afL:=bB Tryz.t245.desc 1 8 Tryz.t245
noncomputable def afM:=bB Tryz.t246.desc 1 8 Tryz.t246
noncomputable def afN:=bB Tryz.t247.desc 4 40 Tryz.t247
noncomputable def afO:=bB Tryz.t247.desc 4 40 Tryz.t248
noncomputable def afP:=bB Tryz.t249.desc 0 0 Tryz.t249
noncomputable def afQ:=bB Tryz.t250.desc 0 0 Tryz.t250
noncomputable def afR:=bB Tryz.t250.desc 0 0 Tryz.t251
noncomputable def afS:=bB Tryz.t5.desc 1 1 Tryz.t252
noncomputable def afT:=bB Tryz.t5.desc 1 1 Tryz.t253
noncomputable def afU:=bB Tryz.t254.desc 1 8 Tryz.t254
noncomputable def afV:=bB Tryz.t255.desc 1 8 Tryz.t255
noncomputable def afW:=bB Tryz.t21.desc 1 4 Tryz.t256
noncomputable def afX:=bB Tryz.t21.desc 1 4 Tryz.t257
noncomputable def afY:=bB Tryz.t258.desc 11 48 Tryz.t258
noncomputable def afZ:=bB Tryz.t258.desc 11 48 Tryz.t259
noncomputable def tL {a:Type} (T i:Nat) (t:a):Option a:=bif Nat.beq T i then some t else none
noncomputable def tN {c:Type} (T i:Nat) (a b:Option c):Option c:=bif Nat.blt T i then a else b
noncomputable def uZ (T:Nat):Option Ty:=(tN T 134 (tN T 67 (tN T 33 (tN T 17 (tN T 9 (tN T 5 (tN T 3 (tL T 2 y2) (tN T 4 (tL T 3 y3) (tL T 4 y4))) (tN T 7 (tN T 6 (tL T 5 y5) (tL T 6 y6)) (tN T 8 (tL T 7 y7) (tL T 8 y8)))) (tN T 13 (tN T 11 (tN T 10 (tL T 9 y9) (tL T 10 y10)) (tN T 12 (tL T 11 y11) (tL T 12 y12))) (tN T 15 (tN T 14 (tL T 13 y13) (tL T 14 y14)) (tN T 16 (tL T 15 y15) (tL T 16 y16))))) (tN T 24 (tN T 20 (tN T 18 (tL T 17 y17) (tN T 19 (tL T 18 y18) (tL T 19 y19))) (tN T 22 (tN T 21 (tL T 20 y20) (tL T 21 y21)) (tN T 23 (tL T 22 y22) (tL T 23 y23)))) (tN T 28 (tN T 26 (tN T 25 (tL T 24 y24) (tL T 25 y25)) (tN T 27 (tL T 26 y26) (tL T 27 y27))) (tN T 30 (tN T 29 (tL T 28 y28) (tL T 29 y29)) (tN T 32 (tL T 30 y30) (tL T 32 y32)))))) (tN T 50 (tN T 40 (tN T 36 (tN T 34 (tL T 33 y33) (tN T 35 (tL T 34 y34) (tL T 35 y35))) (tN T 38 (tN T 37 (tL T 36 y36) (tL T 37 y37)) (tN T 39 (tL T 38 y38) (tL T 39 y39)))) (tN T 44 (tN T 42 (tN T 41 (tL T 40 y40) (tL T 41 y41)) (tN T 43 (tL T 42 y42) (tL T 43 y43))) (tN T 47 (tN T 45 (tL T 44 y44) (tL T 45 y45)) (tN T 49 (tL T 47 y47) (tL T 49 y49))))) (tN T 58 (tN T 53 (tN T 51 (tL T 50 y50) (tN T 52 (tL T 51 y51) (tL T 52 y52))) (tN T 56 (tN T 54 (tL T 53 y53) (tL T 54 y54)) (tN T 57 (tL T 56 y56) (tL T 57 y57)))) (tN T 62 (tN T 60 (tN T 59 (tL T 58 y58) (tL T 59 y59)) (tN T 61 (tL T 60 y60) (tL T 61 y61))) (tN T 64 (tN T 63 (tL T 62 y62) (tL T 63 y63)) (tN T 66 (tL T 64 y64) (tL T 66 y66))))))) (tN T 100 (tN T 84 (tN T 75 (tN T 70 (tN T 68 (tL T 67 y67) (tN T 69 (tL T 68 y68) (tL T 69 y69))) (tN T 72 (tN T 71 (tL T 70 y70) (tL T 71 y71)) (tN T 74 (tL T 72 y72) (tL T 74 y74)))) (tN T 79 (tN T 77 (tN T 76 (tL T 75 y75) (tL T 76 y76)) (tN T 78 (tL T 77 y77) (tL T 78 y78))) (tN T 82 (tN T 80 (tL T 79 y79) (tL T 80 y80)) (tN T 83 (tL T 82 y82) (tL T 83 y83))))) (tN T 91 (tN T 87 (tN T 85 (tL T 84 y84) (tN T 86 (tL T 85 y85) (tL T 86 y86))) (tN T 89 (tN T 88 (tL T 87 y87) (tL T 88 y88)) (tN T 90 (tL T 89 y89) (tL T 90 y90)))) (tN T 95 (tN T 93 (tN T 92 (tL T 91 y91) (tL T 92 y92)) (tN T 94 (tL T 93 y93) (tL T 94 y94))) (tN T 97 (tN T 96 (tL T 95 y95) (tL T 96 y96)) (tN T 99 (tL T 97 y97) (tL T 99 y99)))))) (tN T 116 (tN T 107 (tN T 103 (tN T 101 (tL T 100 adf) (tN T 102 (tL T 101 adg) (tL T 102 adh))) (tN T 105 (tN T 104 (tL T 103 adi) (tL T 104 adj)) (tN T 106 (tL T 105 adk) (tL T 106 adl)))) (tN T 111 (tN T 109 (tN T 108 (tL T 107 adm) (tL T 108 adn)) (tN T 110 (tL T 109 ado) (tL T 110 adp))) (tN T 114 (tN T 112 (tL T 111 adq) (tL T 112 adr)) (tN T 115 (tL T 114 ads) (tL T 115 adt))))) (tN T 125 (tN T 120 (tN T 118 (tN T 117 (tL T 116 adu) (tL T 117 adv)) (tN T 119 (tL T 118 adw) (tL T 119 adx))) (tN T 123 (tN T 122 (tL T 120 ady) (tL T 122 adz)) (tN T 124 (tL T 123 adA) (tL T 124 adB)))) (tN T 130 (tN T 128 (tN T 126 (tL T 125 adC) (tL T 126 adD)) (tN T 129 (tL T 128 adE) (tL T 129 adF))) (tN T 132 (tN T 131 (tL T 130 adG) (tL T 131 adH)) (tN T 133 (tL T 132 adI) (tL T 133 adJ)))))))) (tN T 199 (tN T 166 (tN T 150 (tN T 141 (tN T 137 (tN T 135 (tL T 134 adK) (tN T 136 (tL T 135 adL) (tL T 136 adM))) (tN T 139 (tN T 138 (tL T 137 adN) (tL T 138 adO)) (tN T 140 (tL T 139 adP) (tL T 140 adQ)))) (tN T 145 (tN T 143 (tN T 142 (tL T 141 adR) (tL T 142 adS)) (tN T 144 (tL T 143 adT) (tL T 144 adU))) (tN T 147 (tN T 146 (tL T 145 adV) (tL T 146 adW)) (tN T 148 (tL T 147 adX) (tL T 148 adY))))) (tN T 158 (tN T 154 (tN T 151 (tL T 150 adZ) (tN T 152 (tL T 151 ad_) (tL T 152 aea))) (tN T 156 (tN T 155 (tL T 154 aeb) (tL T 155 aec)) (tN T 157 (tL T 156 aed) (tL T 157 aee)))) (tN T 162 (tN T 160 (tN T 159 (tL T 158 aef) (tL T 159 aeg)) (tN T 161 (tL T 160 aeh) (tL T 161 aei))) (tN T 164 (tN T 163 (tL T 162 aej) (tL T 163 aek)) (tN T 165 (tL T 164 ael) (tL T 165 aem)))))) (tN T 184 (tN T 174 (tN T 169 (tN T 167 (tL T 166 aen) (tN T 168 (tL T 167 aeo) (tL T 168 aep))) (tN T 172 (tN T 171 (tL T 169 aeq) (tL T 171 aer)) (tN T 173 (tL T 172 aes) (tL T 173 aet)))) (tN T 178 (tN T 176 (tN T 175 (tL T 174 aeu) (tL T 175 aev)) (tN T 177 (tL T 176 aew) (tL T 177 aex))) (tN T 181 (tN T 179 (tL T 178 aey) (tL T 179 aez)) (tN T 182 (tL T 181 aeA) (tL T 182 aeB))))) (tN T 191 (tN T 187 (tN T 185 (tL T 184 aeC) (tN T 186 (tL T 185 aeD) (tL T 186 aeE))) (tN T 189 (tN T 188 (tL T 187 aeF) (tL T 188 aeG)) (tN T 190 (tL T 189 aeH) (tL T 190 aeI)))) (tN T 195 (tN T 193 (tN T 192 (tL T 191 aeJ) (tL T 192 aeK)) (tN T 194 (tL T 193 aeL) (tL T 194 aeM))) (tN T 197 (tN T 196 (tL T 195 aeN) (tL T 196 aeO)) (tN T 198 (tL T 197 aeP) (tL T 198 aeQ))))))) (tN T 229 (tN T 214 (tN T 206 (tN T 202 (tN T 200 (tL T 199 aeR) (tN T 201 (tL T 200 aeS) (tL T 201 aeT))) (tN T 204 (tN T 203 (tL T 202 aeU) (tL T 203 aeV)) (tN T 205 (tL T 204 aeW) (tL T 205 aeX)))) (tN T 210 (tN T 208 (tN T 207 (tL T 206 aeY) (tL T 207 aeZ)) (tN T 209 (tL T 208 ae_) (tL T 209 afa))) (tN T 212 (tN T 211 (tL T 210 afb) (tL T 211 afc)) (tN T 213 (tL T 212 afd) (tL T 213 afe))))) (tN T 221 (tN T 217 (tN T 215 (tL T 214 aff) (tN T 216 (tL T 215 afg) (tL T 216 afh))) (tN T 219 (tN T 218 (tL T 217 afi) (tL T 218 afj)) (tN T 220 (tL T 219 afk) (tL T 220 afl)))) (tN T 225 (tN T 223 (tN T 222 (tL T 221 afm) (tL T 222 afn)) (tN T 224 (tL T 223 afo) (tL T 224 afp))) (tN T 227 (tN T 226 (tL T 225 afq) (tL T 226 afr)) (tN T 228 (tL T 227 afs) (tL T 228 afu)))))) (tN T 244 (tN T 236 (tN T 232 (tN T 230 (tL T 229 afv) (tN T 231 (tL T 230 afw) (tL T 231 afx))) (tN T 234 (tN T 233 (tL T 232 afy) (tL T 233 afz)) (tN T 235 (tL T 234 afA) (tL T 235 afB)))) (tN T 240 (tN T 238 (tN T 237 (tL T 236 afC) (tL T 237 afD)) (tN T 239 (tL T 238 afE) (tL T 239 afF))) (tN T 242 (tN T 241 (tL T 240 afG) (tL T 241 afH)) (tN T 243 (tL T 242 afI) (tL T 243 afJ))))) (tN T 252 (tN T 248 (tN T 246 (tN T 245 (tL T 244 afK) (tL T 245 afL)) (tN T 247 (tL T 246 afM) (tL T 247 afN))) (tN T 250 (tN T 249 (tL T 248 afO) (tL T 249 afP)) (tN T 251 (tL T 250 afQ) (tL T 251 afR)))) (tN T 256 (tN T 254 (tN T 253 (tL T 252 afS) (tL T 253 afT)) (tN T 255 (tL T 254 afU) (tL T 255 afV))) (tN T 258 (tN T 257 (tL T 256 afW) (tL T 257 afX)) (tN T 259 (tL T 258 afY) (tL T 259 afZ)))))))))
theorem cM {T i s b:Nat} {u:TypeDesc} {I:TypeInfo} {d:Ty} (hu:Tryz.prog.underlying i=some u) (hi:Tryz.prog.types[i]? = some I) (hs:I.size=s:=by rfl) (hb':I.bytes=b:=by rfl) (hz:I.zero=some (zOf I):=by rfl):tL T i (bB u s b I)=some d->qL Tryz.prog T d:=by
 intro e
 unfold tL at e
 cases hb:Nat.beq T i with
 |true=>rw[hb]at e;cases e;rw[Nat.eq_of_beq_eq_true hb];exact⟨hu,I,YI hi,hs,hb',hz⟩
 |false=>rw[hb]at e;cases e
theorem cN {T i:Nat} {x y:Option Ty} {d:Ty} (a:x=some d->qL Tryz.prog T d) (b:y=some d->qL Tryz.prog T d):tN T i x y=some d->qL Tryz.prog T d:=by
 unfold tN
 cases Nat.blt T i
 ·exact b
 ·exact a
theorem MP {T:Nat} {d:Ty}:uZ T=some d->qL Tryz.prog T d:=
 (cN (cN (cN (cN (cN (cN (cN (cM Tryz.underlying2 Tryz.type2) (cN (cM Tryz.underlying3 Tryz.type3) (cM Tryz.underlying4 Tryz.type4))) (cN (cN (cM Tryz.underlying5 Tryz.type5) (cM Tryz.underlying6 Tryz.type6)) (cN (cM Tryz.underlying7 Tryz.type7) (cM Tryz.underlying8 Tryz.type8)))) (cN (cN (cN (cM Tryz.underlying9 Tryz.type9) (cM Tryz.underlying10 Tryz.type10)) (cN (cM Tryz.underlying11 Tryz.type11) (cM Tryz.underlying12 Tryz.type12))) (cN (cN (cM Tryz.underlying13 Tryz.type13) (cM Tryz.underlying14 Tryz.type14)) (cN (cM Tryz.underlying15 Tryz.type15) (cM Tryz.underlying16 Tryz.type16))))) (cN (cN (cN (cM Tryz.underlying17 Tryz.type17) (cN (cM Tryz.underlying18 Tryz.type18) (cM Tryz.underlying19 Tryz.type19))) (cN (cN (cM Tryz.underlying20 Tryz.type20) (cM Tryz.underlying21 Tryz.type21)) (cN (cM Tryz.underlying22 Tryz.type22) (cM Tryz.underlying23 Tryz.type23)))) (cN (cN (cN (cM Tryz.underlying24 Tryz.type24) (cM Tryz.underlying25 Tryz.type25)) (cN (cM Tryz.underlying26 Tryz.type26) (cM Tryz.underlying27 Tryz.type27))) (cN (cN (cM Tryz.underlying28 Tryz.type28) (cM Tryz.underlying29 Tryz.type29)) (cN (cM Tryz.underlying30 Tryz.type30) (cM Tryz.underlying32 Tryz.type32)))))) (cN (cN (cN (cN (cM Tryz.underlying33 Tryz.type33) (cN (cM Tryz.underlying34 Tryz.type34) (cM Tryz.underlying35 Tryz.type35))) (cN (cN (cM Tryz.underlying36 Tryz.type36) (cM Tryz.underlying37 Tryz.type37)) (cN (cM Tryz.underlying38 Tryz.type38) (cM Tryz.underlying39 Tryz.type39)))) (cN (cN (cN (cM Tryz.underlying40 Tryz.type40) (cM Tryz.underlying41 Tryz.type41)) (cN (cM Tryz.underlying42 Tryz.type42) (cM Tryz.underlying43 Tryz.type43))) (cN (cN (cM Tryz.underlying44 Tryz.type44) (cM Tryz.underlying45 Tryz.type45)) (cN (cM Tryz.underlying47 Tryz.type47) (cM Tryz.underlying49 Tryz.type49))))) (cN (cN (cN (cM Tryz.underlying50 Tryz.type50) (cN (cM Tryz.underlying51 Tryz.type51) (cM Tryz.underlying52 Tryz.type52))) (cN (cN (cM Tryz.underlying53 Tryz.type53) (cM Tryz.underlying54 Tryz.type54)) (cN (cM Tryz.underlying56 Tryz.type56) (cM Tryz.underlying57 Tryz.type57)))) (cN (cN (cN (cM Tryz.underlying58 Tryz.type58) (cM Tryz.underlying59 Tryz.type59)) (cN (cM Tryz.underlying60 Tryz.type60) (cM Tryz.underlying61 Tryz.type61))) (cN (cN (cM Tryz.underlying62 Tryz.type62) (cM Tryz.underlying63 Tryz.type63)) (cN (cM Tryz.underlying64 Tryz.type64) (cM Tryz.underlying66 Tryz.type66))))))) (cN (cN (cN (cN (cN (cM Tryz.underlying67 Tryz.type67) (cN (cM Tryz.underlying68 Tryz.type68) (cM Tryz.underlying69 Tryz.type69))) (cN (cN (cM Tryz.underlying70 Tryz.type70) (cM Tryz.underlying71 Tryz.type71)) (cN (cM Tryz.underlying72 Tryz.type72) (cM Tryz.underlying74 Tryz.type74)))) (cN (cN (cN (cM Tryz.underlying75 Tryz.type75) (cM Tryz.underlying76 Tryz.type76)) (cN (cM Tryz.underlying77 Tryz.type77) (cM Tryz.underlying78 Tryz.type78))) (cN (cN (cM Tryz.underlying79 Tryz.type79) (cM Tryz.underlying80 Tryz.type80)) (cN (cM Tryz.underlying82 Tryz.type82) (cM Tryz.underlying83 Tryz.type83))))) (cN (cN (cN (cM Tryz.underlying84 Tryz.type84) (cN (cM Tryz.underlying85 Tryz.type85) (cM Tryz.underlying86 Tryz.type86))) (cN (cN (cM Tryz.underlying87 Tryz.type87) (cM Tryz.underlying88 Tryz.type88)) (cN (cM Tryz.underlying89 Tryz.type89) (cM Tryz.underlying90 Tryz.type90)))) (cN (cN (cN (cM Tryz.underlying91 Tryz.type91) (cM Tryz.underlying92 Tryz.type92)) (cN (cM Tryz.underlying93 Tryz.type93) (cM Tryz.underlying94 Tryz.type94))) (cN (cN (cM Tryz.underlying95 Tryz.type95) (cM Tryz.underlying96 Tryz.type96)) (cN (cM Tryz.underlying97 Tryz.type97) (cM Tryz.underlying99 Tryz.type99)))))) (cN (cN (cN (cN (cM Tryz.underlying100 Tryz.type100) (cN (cM Tryz.underlying101 Tryz.type101) (cM Tryz.underlying102 Tryz.type102))) (cN (cN (cM Tryz.underlying103 Tryz.type103) (cM Tryz.underlying104 Tryz.type104)) (cN (cM Tryz.underlying105 Tryz.type105) (cM Tryz.underlying106 Tryz.type106)))) (cN (cN (cN (cM Tryz.underlying107 Tryz.type107) (cM Tryz.underlying108 Tryz.type108)) (cN (cM Tryz.underlying109 Tryz.type109) (cM Tryz.underlying110 Tryz.type110))) (cN (cN (cM Tryz.underlying111 Tryz.type111) (cM Tryz.underlying112 Tryz.type112)) (cN (cM Tryz.underlying114 Tryz.type114) (cM Tryz.underlying115 Tryz.type115))))) (cN (cN (cN (cN (cM Tryz.underlying116 Tryz.type116) (cM Tryz.underlying117 Tryz.type117)) (cN (cM Tryz.underlying118 Tryz.type118) (cM Tryz.underlying119 Tryz.type119))) (cN (cN (cM Tryz.underlying120 Tryz.type120) (cM Tryz.underlying122 Tryz.type122)) (cN (cM Tryz.underlying123 Tryz.type123) (cM Tryz.underlying124 Tryz.type124)))) (cN (cN (cN (cM Tryz.underlying125 Tryz.type125) (cM Tryz.underlying126 Tryz.type126)) (cN (cM Tryz.underlying128 Tryz.type128) (cM Tryz.underlying129 Tryz.type129))) (cN (cN (cM Tryz.underlying130 Tryz.type130) (cM Tryz.underlying131 Tryz.type131)) (cN (cM Tryz.underlying132 Tryz.type132) (cM Tryz.underlying133 Tryz.type133)))))))) (cN (cN (cN (cN (cN (cN (cM Tryz.underlying134 Tryz.type134) (cN (cM Tryz.underlying135 Tryz.type135) (cM Tryz.underlying136 Tryz.type136))) (cN (cN (cM Tryz.underlying137 Tryz.type137) (cM Tryz.underlying138 Tryz.type138)) (cN (cM Tryz.underlying139 Tryz.type139) (cM Tryz.underlying140 Tryz.type140)))) (cN (cN (cN (cM Tryz.underlying141 Tryz.type141) (cM Tryz.underlying142 Tryz.type142)) (cN (cM Tryz.underlying143 Tryz.type143) (cM Tryz.underlying144 Tryz.type144))) (cN (cN (cM Tryz.underlying145 Tryz.type145) (cM Tryz.underlying146 Tryz.type146)) (cN (cM Tryz.underlying147 Tryz.type147) (cM Tryz.underlying148 Tryz.type148))))) (cN (cN (cN (cM Tryz.underlying150 Tryz.type150) (cN (cM Tryz.underlying151 Tryz.type151) (cM Tryz.underlying152 Tryz.type152))) (cN (cN (cM Tryz.underlying154 Tryz.type154) (cM Tryz.underlying155 Tryz.type155)) (cN (cM Tryz.underlying156 Tryz.type156) (cM Tryz.underlying157 Tryz.type157)))) (cN (cN (cN (cM Tryz.underlying158 Tryz.type158) (cM Tryz.underlying159 Tryz.type159)) (cN (cM Tryz.underlying160 Tryz.type160) (cM Tryz.underlying161 Tryz.type161))) (cN (cN (cM Tryz.underlying162 Tryz.type162) (cM Tryz.underlying163 Tryz.type163)) (cN (cM Tryz.underlying164 Tryz.type164) (cM Tryz.underlying165 Tryz.type165)))))) (cN (cN (cN (cN (cM Tryz.underlying166 Tryz.type166) (cN (cM Tryz.underlying167 Tryz.type167) (cM Tryz.underlying168 Tryz.type168))) (cN (cN (cM Tryz.underlying169 Tryz.type169) (cM Tryz.underlying171 Tryz.type171)) (cN (cM Tryz.underlying172 Tryz.type172) (cM Tryz.underlying173 Tryz.type173)))) (cN (cN (cN (cM Tryz.underlying174 Tryz.type174) (cM Tryz.underlying175 Tryz.type175)) (cN (cM Tryz.underlying176 Tryz.type176) (cM Tryz.underlying177 Tryz.type177))) (cN (cN (cM Tryz.underlying178 Tryz.type178) (cM Tryz.underlying179 Tryz.type179)) (cN (cM Tryz.underlying181 Tryz.type181) (cM Tryz.underlying182 Tryz.type182))))) (cN (cN (cN (cM Tryz.underlying184 Tryz.type184) (cN (cM Tryz.underlying185 Tryz.type185) (cM Tryz.underlying186 Tryz.type186))) (cN (cN (cM Tryz.underlying187 Tryz.type187) (cM Tryz.underlying188 Tryz.type188)) (cN (cM Tryz.underlying189 Tryz.type189) (cM Tryz.underlying190 Tryz.type190)))) (cN (cN (cN (cM Tryz.underlying191 Tryz.type191) (cM Tryz.underlying192 Tryz.type192)) (cN (cM Tryz.underlying193 Tryz.type193) (cM Tryz.underlying194 Tryz.type194))) (cN (cN (cM Tryz.underlying195 Tryz.type195) (cM Tryz.underlying196 Tryz.type196)) (cN (cM Tryz.underlying197 Tryz.type197) (cM Tryz.underlying198 Tryz.type198))))))) (cN (cN (cN (cN (cN (cM Tryz.underlying199 Tryz.type199) (cN (cM Tryz.underlying200 Tryz.type200) (cM Tryz.underlying201 Tryz.type201))) (cN (cN (cM Tryz.underlying202 Tryz.type202) (cM Tryz.underlying203 Tryz.type203)) (cN (cM Tryz.underlying204 Tryz.type204) (cM Tryz.underlying205 Tryz.type205)))) (cN (cN (cN (cM Tryz.underlying206 Tryz.type206) (cM Tryz.underlying207 Tryz.type207)) (cN (cM Tryz.underlying208 Tryz.type208) (cM Tryz.underlying209 Tryz.type209))) (cN (cN (cM Tryz.underlying210 Tryz.type210) (cM Tryz.underlying211 Tryz.type211)) (cN (cM Tryz.underlying212 Tryz.type212) (cM Tryz.underlying213 Tryz.type213))))) (cN (cN (cN (cM Tryz.underlying214 Tryz.type214) (cN (cM Tryz.underlying215 Tryz.type215) (cM Tryz.underlying216 Tryz.type216))) (cN (cN (cM Tryz.underlying217 Tryz.type217) (cM Tryz.underlying218 Tryz.type218)) (cN (cM Tryz.underlying219 Tryz.type219) (cM Tryz.underlying220 Tryz.type220)))) (cN (cN (cN (cM Tryz.underlying221 Tryz.type221) (cM Tryz.underlying222 Tryz.type222)) (cN (cM Tryz.underlying223 Tryz.type223) (cM Tryz.underlying224 Tryz.type224))) (cN (cN (cM Tryz.underlying225 Tryz.type225) (cM Tryz.underlying226 Tryz.type226)) (cN (cM Tryz.underlying227 Tryz.type227) (cM Tryz.underlying228 Tryz.type228)))))) (cN (cN (cN (cN (cM Tryz.underlying229 Tryz.type229) (cN (cM Tryz.underlying230 Tryz.type230) (cM Tryz.underlying231 Tryz.type231))) (cN (cN (cM Tryz.underlying232 Tryz.type232) (cM Tryz.underlying233 Tryz.type233)) (cN (cM Tryz.underlying234 Tryz.type234) (cM Tryz.underlying235 Tryz.type235)))) (cN (cN (cN (cM Tryz.underlying236 Tryz.type236) (cM Tryz.underlying237 Tryz.type237)) (cN (cM Tryz.underlying238 Tryz.type238) (cM Tryz.underlying239 Tryz.type239))) (cN (cN (cM Tryz.underlying240 Tryz.type240) (cM Tryz.underlying241 Tryz.type241)) (cN (cM Tryz.underlying242 Tryz.type242) (cM Tryz.underlying243 Tryz.type243))))) (cN (cN (cN (cN (cM Tryz.underlying244 Tryz.type244) (cM Tryz.underlying245 Tryz.type245)) (cN (cM Tryz.underlying246 Tryz.type246) (cM Tryz.underlying247 Tryz.type247))) (cN (cN (cM Tryz.underlying248 Tryz.type248) (cM Tryz.underlying249 Tryz.type249)) (cN (cM Tryz.underlying250 Tryz.type250) (cM Tryz.underlying251 Tryz.type251)))) (cN (cN (cN (cM Tryz.underlying252 Tryz.type252) (cM Tryz.underlying253 Tryz.type253)) (cN (cM Tryz.underlying254 Tryz.type254) (cM Tryz.underlying255 Tryz.type255))) (cN (cN (cM Tryz.underlying256 Tryz.type256) (cM Tryz.underlying257 Tryz.type257)) (cN (cM Tryz.underlying258 Tryz.type258) (cM Tryz.underlying259 Tryz.type259)))))))))

noncomputable instance:cA Tryz.prog:=⟨uZ,MP⟩
end Go.Sx
end
section
namespace Go.Sx
open Go.RowKit
section
section
variable {P:Program} {ops:Array Oper} {Q:Exit->Act->World->Prop}
def Ns:Exit->Act->World->Prop:=fun _ _ _=>False
theorem Pu:¬LetsOut Ns:=fun⟨_,_,h⟩=>h
theorem HT {o:Oper} {a:Act} {w:World} {K:Act->World->Prop} (h:o.wp P a w K Ns):o.wp P a w K Q:=by
 unfold Oper.wp at *
 generalize (execOp a.eval o).run P w=r at *
 cases r with
 | ok n w' =>
  cases n<;>simp only[Oper.upon]at h ⊢ <;> first
   |exact h
   |exact Calls.mono h (fun e c b=>by cases e<;>first|exact b|exact absurd b Pu|exact b.elim)
 |halt x w'=>cases x<;>simp only[Oper.upon]at h ⊢ <;> first|exact h|exact h.elim
def RR (a b:Act) (d:Option Tmp):Prop:=∃u c,b=({a with defers:=c}:Act).put d u
theorem TY {o:Oper} {a:Act} {w:World} {K:Act->World->Prop} (h:o.wp P a w K Ns):o.wp P a w (fun i w'=>K i w'∧RR a i o.dst) Ns:=by
 unfold Oper.wp at *
 generalize (execOp a.eval o).run P w=r at *
 cases r with
 | ok n w' =>
  cases n<;>simp only[Oper.upon]at h ⊢
  case value v=>exact⟨h,v,a.defers,rfl⟩
  case skip=>exact⟨h,undef,a.defers,rfl⟩
  case defer d=>exact⟨h,undef,d::a.defers,rfl⟩
  case enter f args=>
   refine Calls.mono h fun e g b=> ?_
   cases e with
   |returned v=>exact⟨b,v,a.defers,rfl⟩
   |panicked c=>exact b
   |outgrown=>exact b
  case row row args=>exact Rows.mono h fun v g b=>⟨b,v,a.defers,rfl⟩
 |halt x w'=>cases x<;>simp only[Oper.upon]at h ⊢ <;> exact h
theorem Mj {o:Oper} {a:Act} {w:World} {K:Act->World->Prop} (h:o.wp P a w K Ns):∃i w',K i w':=by
 unfold Oper.wp at *
 generalize (execOp a.eval o).run P w=r at *
 cases r with
 | ok n w' =>
  cases n<;>simp only[Oper.upon]at h
  case value v=>exact⟨_,_,h⟩
  case skip=>exact⟨_,_,h⟩
  case defer d=>exact⟨_,_,h⟩
  case enter f args=>
   obtain⟨e,g,j,b,_⟩:=h []
   cases e with
   |returned v=>exact⟨_,_,b⟩
   |panicked c=>exact b.elim
   |outgrown=>exact absurd b Pu
  case row row args=>
   obtain⟨v,g,b,_⟩:=h default []
   exact⟨_,_,b⟩
 |halt x w'=>cases x<;>simp only[Oper.upon]at h<;>exact h.elim
theorem PD {o:Oper} {a:Act} {w:World} {K:Act->World->Prop} {d:Option Tmp} {v:Value} (p:∀cs b,o.op ≠ .select cs b) (m:∀t,d=some t->t∉o.looksAt ops) (g:∀t,d=some t->o.dst≠some t)
  (h:o.wp P a w K Ns):o.wp P (a.put d v) w (fun l w'=>∃k,K k w'∧l=k.put d v) Ns:=by
 unfold Oper.wp at *
 rw[execOp_put (ops:=ops) o p a d v m]
 have q:(a.put d v).defers=a.defers:=by cases d<;>rfl
 generalize (execOp a.eval o).run P w=r at *
 cases r with
 | ok n w' =>
  cases n<;>simp only[Oper.upon]at h ⊢
  case value u=>exact⟨_,h,Act.put_comm a v u g⟩
  case skip=>exact⟨_,h,Act.put_comm a v undef g⟩
  case defer e=>exact⟨_,h,by rw[Act.put_defers,Act.put_comm _ v undef g]⟩
  case enter f args=>
   refine Calls.mono h fun e j i=> ?_
   cases e with
   |returned u=>exact⟨_,i,Act.put_comm a v u g⟩
   |panicked c=>exact i
   |outgrown=>exact i
  case row row args=>exact Rows.mono h fun u j i=>⟨_,i,Act.put_comm a v u g⟩
 |halt x w'=>cases x<;>simp only[Oper.upon]at h ⊢ <;> exact h
theorem nF {o:Oper} {a:Act} {w:World} {K b:Act->World->Prop} (c:∀a w,K a w->b a w) (h:o.wp P a w K Ns):o.wp P a w b Ns:=Oper.wp_mono c h
def Ll (P:Program) (A:Nat->Nat->Bool) (i:Nat) (o:Oper) (a:Act) (w:World) (H:List (Nat×World)) (v:Value) (B:World->Prop):Prop:=
 B w∧(∀l∈H,A i l.1=false->B l.2)∧∀w',B w'->(execOp a.eval o).run P w' = .ok (.value v) w'
def RW (P:Program) (ops:Array Oper) (Q:Exit->Act->World->Prop) (A:Nat->Nat->Bool) (c:Nat->Bool) (d:Nat):List Nat->Act->World->List (Nat×World)->List (Nat×(World->Prop))->Prop
 | [],a,w,_,_=>Q .normal a w
 | i :: rest, a, w, H, Bs =>
  match ops[i]? with
  |none=>False
  | some o =>
   if Region.wanted o (yielded ops a.tmps)then
    (d<=i∧(o.wp P a w (fun e w'=>RW P ops Q A c d rest e w' H Bs) Q∨o.rnd P a w (fun e w'=>RW P ops Q A c d rest e w' H Bs)))∨
    (i<d∧c i=false∧∃v B,Ll P A i o a w H v B∧RW P ops Q A c d rest (a.put o.dst v) w H ((i,B)::Bs))∨
    (i<d∧c i=true∧o.wp P a w (fun e w'=>(∀b∈Bs,A i b.1=false->b.2 w')∧RW P ops Q A c d rest e w' ((i,w)::H) Bs) Ns)
   else RW P ops Q A c d rest (a.put o.dst undef) w H Bs
variable {A:Nat->Nat->Bool} {loud:Nat->Bool} {k0:Nat}
theorem Vi:∀(L:List Nat) (a:Act) (w:World) (H:List (Nat×World)) (d c:List (Nat×(World->Prop))),(∀b∈c,b∈d)->RW P ops Q A loud k0 L a w H d->RW P ops Q A loud k0 L a w H c:=by
 intro L
 induction L with
 |nil=>intro a w H d c _ h;exact h
 | cons i L ih =>
  intro a w H d c e h
  simp only[RW]at h ⊢
  cases l:ops[i]? with
  |none=>simp[l]at h
  | some o =>
   simp only[l]at h ⊢
   split
   ·rename_i k
    rw[if_pos k]at h
    rcases h with⟨f,h2⟩|⟨f,h2,v,B,j,m⟩|⟨f,h2,j⟩
    ·refine .inl ⟨f,?_⟩
     rcases h2 with h2|h2
     ·exact .inl (Oper.wp_mono (fun a w h=>ih a w H d c e h) h2)
     ·exact .inr (Oper.rnd_mono (fun a w h=>ih a w H d c e h) h2)
    ·exact .inr (.inl ⟨f,h2,v,B,j,ih _ _ _ _ _ (fun b g=>by
      rcases List.mem_cons.1 g with rfl|g
      ·exact List.mem_cons_self
      ·exact List.mem_cons_of_mem _ (e b g)) m⟩)
    ·exact .inr (.inr ⟨f,h2,nF (fun a w h=>⟨fun b g=>h.1 b (e b g),ih a w _ d c e h.2⟩) j⟩)
   ·rename_i k
    rw[if_neg k]at h
    exact ih _ _ _ _ _ e h
structure GT (ops:Array Oper) (A:Nat->Nat->Bool) (loud:Nat->Bool) (x i:Nat):Prop where
 na:A i x=false
 nb:A x i=false
 apart:∀ox oi,ops[x]? = some ox->ops[i]? = some oi->ox.apart ops oi=true
 one:loud x=false∨loud i=false
theorem Jm {a c:Act} {o:Oper} {d:Option Tmp} (g:∀cs b,o.op ≠ .select cs b) (h:∀t,d=some t->t∉o.looksAt ops) (f:RR a c d):execOp c.eval o=execOp a.eval o∧Region.wanted o (yielded ops c.tmps)=Region.wanted o (yielded ops a.tmps):=by
 obtain⟨u,e,rfl⟩:=f
 refine⟨(execOp_put (ops:=ops) o g {a with defers:=e} d u h).trans rfl,wanted_put o {a with defers:=e} d u h⟩
theorem Ll.of_exec {i:Nat} {o:Oper} {a b:Act} {w:World} {H:List (Nat×World)} {v:Value} {B:World->Prop} (h:Ll P A i o a w H v B) (e:execOp b.eval o=execOp a.eval o):Ll P A i o b w H v B:=by
 obtain⟨c,d,f⟩:=h
 exact⟨c,d,fun w' g=>by rw[e];exact f w' g⟩
theorem CU (t:∀(i:Nat) (o:Oper),ops[i]? = some o->∀cs b,o.op ≠ .select cs b) {i:Nat} {o:Oper} {W:List Nat} (hi:ops[i]? = some o) (ad:i<k0) (aa:loud i=false):
  ∀(r:List Nat) (a:Act) (w:World) (H:List (Nat×World)) (G:List (Nat×(World->Prop))),(∀x∈r,GT ops A loud x i∧x<k0)->RW P ops Q A loud k0 (r++i::W) a w H G->
   (Region.wanted o (yielded ops a.tmps)=false∧RW P ops Q A loud k0 (r++W) (a.put o.dst undef) w H G)∨
   (Region.wanted o (yielded ops a.tmps)=true∧∃v B,Ll P A i o a w H v B∧RW P ops Q A loud k0 (r++W) (a.put o.dst v) w H G):=by
 intro r
 induction r with
 | nil =>
  intro a w H G _ h
  simp only[List.nil_append,RW,hi]at h
  by_cases e:Region.wanted o (yielded ops a.tmps)=true
  ·rw[if_pos e]at h
   rcases h with⟨h,_⟩|⟨_,_,v,B,hv,h⟩|⟨_,h,_⟩
   ·omega
   ·exact .inr ⟨e,v,B,hv,Vi _ _ _ _ _ _ (fun b hb=>List.mem_cons_of_mem _ hb) h⟩
   ·rw[aa]at h;cases h
  ·rw[if_neg e]at h
   exact .inl ⟨by simpa using e,h⟩
 | cons x r ih =>
  intro a w H G hx h
  obtain⟨D,q⟩:=hx x List.mem_cons_self
  have k:∀y∈r,GT ops A loud y i∧y<k0:=fun y hy=>hx y (List.mem_cons_of_mem _ hy)
  simp only[List.cons_append,RW]at h ⊢
  cases n:ops[x]? with
  |none=>simp[n]at h
  | some ox =>
   simp only[n]at h ⊢
   obtain⟨p1,p2,p3⟩:=Oper.apart_spec (D.apart ox o n hi)
   have S:=t i o hi
   have C:=t x ox n
   have q2:∀(d:Tmp),o.dst=some d->ox.dst≠some d:=fun d hd O=>p2 d O hd
   have ex:∀(b:Act) u,execOp (b.put o.dst u).eval ox=execOp b.eval ox:=fun b u=>execOp_put (ops:=ops) ox C b o.dst u p3
   have F:∀(b:Act) u,Region.wanted ox (yielded ops (b.put o.dst u).tmps)=Region.wanted ox (yielded ops b.tmps):=fun b u=>wanted_put ox b o.dst u p3
   have ei:∀(b:Act) u,execOp (b.put ox.dst u).eval o=execOp b.eval o:=fun b u=>execOp_put (ops:=ops) o S b ox.dst u p1
   have V:∀(b:Act) u,Region.wanted o (yielded ops (b.put ox.dst u).tmps)=Region.wanted o (yielded ops b.tmps):=fun b u=>wanted_put o b ox.dst u p1
   by_cases e:Region.wanted ox (yielded ops a.tmps)=true
   ·rw[if_pos e]at h
    rcases h with⟨h,_⟩|⟨_,f,U,Bx,T,h⟩|⟨_,f,h⟩
    ·omega
    ·rcases ih _ w H _ k h with⟨c,z⟩|⟨c,v,B,z,Z⟩
     ·rw[V]at c
      refine .inl ⟨c,?_⟩
      rw[if_pos (by rw[F];exact e)]
      exact .inr (.inl ⟨q,f,U,Bx,T.of_exec (ex a undef),by rw[<-Act.put_comm a U undef p2];exact z⟩)
     ·rw[V]at c
      refine .inr ⟨c,v,B,z.of_exec (ei a U).symm,?_⟩
      rw[if_pos (by rw[F];exact e)]
      exact .inr (.inl ⟨q,f,U,Bx,T.of_exec (ex a v),by rw[<-Act.put_comm a U v p2];exact Z⟩)
    ·have Y:=TY h
     obtain⟨a1,w1,⟨⟨_,ab⟩,m⟩⟩:=Mj Y
     have E:=fun {a':Act} (s:RR a a' ox.dst)=>Jm (ops:=ops) S p1 s
     rcases ih a1 w1 _ _ k ab with⟨c,_⟩|⟨c,v,B,⟨ac,J,L⟩,_⟩
     ·have j:Region.wanted o (yielded ops a.tmps)=false:=by rw[<-(E m).2];exact c
      refine .inl ⟨j,?_⟩
      rw[if_pos (by rw[F];exact e)]
      refine .inr (.inr ⟨q,f,?_⟩)
      refine nF ?_ (PD (ops:=ops) (d:=o.dst) (v:=undef) C p3 q2 Y)
      rintro a2 w2 ⟨X,⟨⟨O,hr⟩,s⟩,rfl⟩
      refine⟨O,?_⟩
      rcases ih X w2 _ _ k hr with⟨_,h5⟩|⟨I,_⟩
      ·exact h5
      ·rw[(E s).2,j]at I;cases I
     ·have j:Region.wanted o (yielded ops a.tmps)=true:=by rw[<-(E m).2];exact c
      have N:B w:=J (x,w) List.mem_cons_self D.na
      have R:(execOp a.eval o).run P w = .ok (.value v) w:=by rw[<-(E m).1];exact L w N
      refine .inr ⟨j,v,B,⟨N,fun l s=>J l (List.mem_cons_of_mem _ s),fun w' p=>by rw[<-(E m).1];exact L w' p⟩,?_⟩
      rw[if_pos (by rw[F];exact e)]
      refine .inr (.inr ⟨q,f,?_⟩)
      refine nF ?_ (PD (ops:=ops) (d:=o.dst) (v:=v) C p3 q2 Y)
      rintro a2 w2 ⟨X,⟨⟨O,hr⟩,s⟩,rfl⟩
      refine⟨O,?_⟩
      rcases ih X w2 _ _ k hr with⟨I,_⟩|⟨_,v',B',⟨_,K,M⟩,h5⟩
      ·rw[(E s).2,j]at I;cases I
      ·have g:=M w (K (x,w) List.mem_cons_self D.na)
       rw[(E s).1,R]at g
       cases g
       exact h5
   ·rw[if_neg e]at h
    have p:Region.wanted ox (yielded ops a.tmps)=false:=by simpa using e
    rcases ih _ w H _ k h with⟨c,z⟩|⟨c,v,B,z,Z⟩
    ·rw[V]at c
     refine .inl ⟨c,?_⟩
     rw[if_neg (by rw[F,p];simp),<-Act.put_comm a undef undef p2]
     exact z
    ·rw[V]at c
     refine .inr ⟨c,v,B,z.of_exec (ei a undef).symm,?_⟩
     rw[if_neg (by rw[F,p];simp),<-Act.put_comm a undef v p2]
     exact Z
theorem DO (t:∀(i:Nat) (o:Oper),ops[i]? = some o->∀cs b,o.op ≠ .select cs b) {i:Nat} {o:Oper} {S:List Nat} (W:ops[i]? = some o) (ab:i<k0) (I:loud i=true):
  ∀(q:List Nat) (a:Act) (w:World) (H:List (Nat×World)) (E:List (Nat×(World->Prop))),(∀x∈q,GT ops A loud x i∧x<k0)->RW P ops Q A loud k0 (q++i::S) a w H E->
   (Region.wanted o (yielded ops a.tmps)=false∧RW P ops Q A loud k0 (q++S) (a.put o.dst undef) w H E)∨
   (Region.wanted o (yielded ops a.tmps)=true∧o.wp P a w (fun F w'=>(∀b∈E,A i b.1=false->b.2 w')∧RW P ops Q A loud k0 (q++S) F w' ((i,w)::H) E) Ns):=by
 intro q
 induction q with
 | nil =>
  intro a w H E _ h
  simp only[List.nil_append,RW,W]at h
  by_cases j:Region.wanted o (yielded ops a.tmps)=true
  ·rw[if_pos j]at h
   rcases h with⟨h,_⟩|⟨_,h,_⟩|⟨_,_,h⟩
   ·omega
   ·rw[I]at h;cases h
   ·exact .inr ⟨j,h⟩
  ·rw[if_neg j]at h
   exact .inl ⟨by simpa using j,h⟩
 | cons x q ih =>
  intro a w H E hx h
  obtain⟨D,L⟩:=hx x List.mem_cons_self
  have M:∀y∈q,GT ops A loud y i∧y<k0:=fun y hy=>hx y (List.mem_cons_of_mem _ hy)
  have C:loud x=false:=D.one.resolve_right (by rw[I];simp)
  simp only[List.cons_append,RW]at h ⊢
  cases m:ops[x]? with
  |none=>simp[m]at h
  | some ox =>
   simp only[m]at h ⊢
   obtain⟨p1,p2,p3⟩:=Oper.apart_spec (D.apart ox o m W)
   have Y:=t i o W
   have J:=t x ox m
   have ex:∀(b:Act) u,execOp (b.put o.dst u).eval ox=execOp b.eval ox:=fun b u=>execOp_put (ops:=ops) ox J b o.dst u p3
   have wx:∀(b:Act) u,Region.wanted ox (yielded ops (b.put o.dst u).tmps)=Region.wanted ox (yielded ops b.tmps):=fun b u=>wanted_put ox b o.dst u p3
   have O:∀(b:Act) u,Region.wanted o (yielded ops (b.put ox.dst u).tmps)=Region.wanted o (yielded ops b.tmps):=fun b u=>wanted_put o b ox.dst u p1
   have lx:=fun {F:Act} (G:RR a F o.dst)=>Jm (ops:=ops) J p3 G
   have s:∀(u:Value) (Z:Act->World->Prop),o.wp P (a.put ox.dst u) w Z Ns->o.wp P a w (fun F w'=>RR a F o.dst∧Z (F.put ox.dst u) w') Ns:=by
    intro u Z k
    unfold Oper.wp at *
    rw[execOp_put (ops:=ops) o Y a ox.dst u p1]at k
    generalize (execOp a.eval o).run P w=r at *
    cases r with
    | ok n w' =>
     cases n<;>simp only[Oper.upon]at k ⊢
     case value v=>exact⟨⟨v,a.defers,rfl⟩,by rw[<-Act.put_comm a u v p2];exact k⟩
     case skip=>exact⟨⟨undef,a.defers,rfl⟩,by rw[<-Act.put_comm a u undef p2];exact k⟩
     case defer e=>exact⟨⟨undef,e::a.defers,rfl⟩,by rw[<-Act.put_comm _ u undef p2,<-Act.put_defers];exact k⟩
     case enter f args=>
      refine Calls.mono k fun e aa g=> ?_
      cases e with
      |returned v=>exact⟨⟨v,a.defers,rfl⟩,by rw[<-Act.put_comm a u v p2];exact g⟩
      |panicked c=>exact g
      |outgrown=>exact g
     case row row args=>exact Rows.mono k fun v aa g=>⟨⟨v,a.defers,rfl⟩,by rw[<-Act.put_comm a u v p2];exact g⟩
    |halt y w'=>cases y<;>simp only[Oper.upon]at k ⊢ <;> exact k
   by_cases j:Region.wanted ox (yielded ops a.tmps)=true
   ·rw[if_pos j]at h
    rcases h with⟨h,_⟩|⟨_,_,N,R,K,h⟩|⟨_,h,_⟩
    ·omega
    ·rcases ih _ w H _ M h with⟨d,z⟩|⟨d,z⟩
     ·rw[O]at d
      refine .inl ⟨d,?_⟩
      rw[if_pos (by rw[wx];exact j)]
      exact .inr (.inl ⟨L,C,N,R,K.of_exec (ex a undef),by rw[<-Act.put_comm a N undef p2];exact z⟩)
     ·rw[O]at d
      refine .inr ⟨d,nF ?_ (s N _ z)⟩
      rintro a1 w1 ⟨G,g,X⟩
      refine⟨fun b hb=>g b (List.mem_cons_of_mem _ hb),?_⟩
      rw[if_pos (by rw[(lx G).2];exact j)]
      refine .inr (.inl ⟨L,C,N,R,?_,X⟩)
      obtain⟨T,U,V⟩:=K
      refine⟨g (x,R) List.mem_cons_self D.na,fun l B hA=> ?_,fun w' p=>by rw[(lx G).1];exact V w' p⟩
      rcases List.mem_cons.1 B with rfl|B
      ·exact T
      ·exact U l B hA
    ·rw[C]at h;cases h
   ·rw[if_neg j]at h
    have p:Region.wanted ox (yielded ops a.tmps)=false:=by simpa using j
    rcases ih _ w H _ M h with⟨d,z⟩|⟨d,z⟩
    ·rw[O]at d
     refine .inl ⟨d,?_⟩
     rw[if_neg (by rw[wx,p];simp),<-Act.put_comm a undef undef p2]
     exact z
    ·rw[O]at d
     refine .inr ⟨d,nF ?_ (s undef _ z)⟩
     rintro a1 w1 ⟨G,g,X⟩
     refine⟨g,?_⟩
     rw[if_neg (by rw[(lx G).2,p];simp)]
     exact X
end

def rV (o:Oper):List Nat:=(o.after.toList.filter (Region.binds .any)).map (·.on)
def nP (l:List Oper):List Nat:=l.foldl (fun a o=>a++[(rV o).foldl (fun s e=>s ||| 2^e ||| a.getD e 0) 0]) []
def before (m:List Nat) (i j:Nat):Bool:=(m.getD i 0).testBit j
def dX:Op->Bool
 | .move _ | .assign _ | .pick .. | .build .. | .load .. | .binOp .. | .unOp .. | .convert .. | .fieldAddr .. | .field .. | .indexAddr .. | .index .. | .lookup .. | .extract .. | .slice .. | .makeFunc .. | .nilCheck .. => false
 | .call ⟨.builtin .len,_,_⟩ | .call ⟨.builtin .max,_,_⟩ | .call ⟨.builtin .min,_,_⟩ | .call ⟨.builtin .cap,_,_⟩=>false
 |_=>true
def An:Op->Bool
 | .select .. => true
 |_=>false
def cV (l:List Oper) (i:Nat):Bool:=((l[i]?).map fun o=>dX o.op).getD false
def chk (l:List Oper) (m:List Nat) (b:Nat):Bool:=
  (List.range l.length).all fun i=>match l[i]? with
    |none=>false
    | some o =>
      (rV o).all (fun e=>Nat.blt e i&&before m i e&&(List.range i).all (fun k=> !before m e k||before m i k)) &&
      (List.range l.length).all (fun k=> !before m i k||(Nat.blt k i&&(rV o).any (fun e=>Nat.beq e k||before m e k))) &&
      !An o.op &&
      (if Nat.ble b i then(List.range i).all (fun x=>before m i x)
       else(List.range i).all (fun x=>before m i x||(match l[x]? with|none=>false|some a=>a.apart l.toArray o&&(!dX a.op || !dX o.op))))
end
section
structure Chk (l:List Oper) (m:List Nat) (k0:Nat):Prop where
 edge:∀(i:Nat) (o:Oper),l[i]? = some o->∀e∈rV o,e<i∧before m i e=true
 trans:∀(i:Nat) (o:Oper),l[i]? = some o->∀k,before m i k=true->k<l.length->k<i∧∃e∈rV o,e=k∨before m e k=true
 sel:∀(i:Nat) (o:Oper),l[i]? = some o->∀cs b,o.op ≠ .select cs b
 tail:∀i x,i<l.length->k0<=i->x<i->before m i x=true
 ind:∀(i x:Nat) (oi ox:Oper),l[i]? = some oi->l[x]? = some ox->i<k0->x<i->before m i x=false->ox.apart l.toArray oi=true∧(dX ox.op=false∨dX oi.op=false)
theorem bA {b:Type} {l:List b} {i:Nat} {x:b} (h:l[i]? = some x):i<l.length:=by
 rcases Nat.lt_or_ge i l.length with a|a
 ·exact a
 ·rw[List.getElem?_eq_none a]at h;cases h
theorem SQ {l:List Oper} {m:List Nat} {q:Nat} (h:chk l m q=true):Chk l m q:=by
  have a:∀(i:Nat) (o:Oper),l[i]? = some o->
      ((rV o).all (fun e=>Nat.blt e i&&before m i e&&(List.range i).all (fun k=> !before m e k||before m i k))=true)∧
      ((List.range l.length).all (fun k=> !before m i k||(Nat.blt k i&&(rV o).any (fun e=>Nat.beq e k||before m e k)))=true)∧An o.op=false∧
      ((if Nat.ble q i then(List.range i).all (fun x=>before m i x)
       else(List.range i).all (fun x=>before m i x||(match l[x]? with|none=>false|some r=>r.apart l.toArray o&&(!dX r.op || !dX o.op))))=true):=by
    intro i o c
    have:=List.all_eq_true.1 h i (List.mem_range.2 (bA c))
    simp only[c,Bool.and_eq_true,Bool.not_eq_true']at this
    exact⟨this.1.1.1,this.1.1.2,this.1.2,this.2⟩
  refine⟨?_,?_,?_,?_,?_⟩
  · intro i o c e j
    have:=List.all_eq_true.1 (a i o c).1 e j
    simp only[Bool.and_eq_true,Nat.blt_eq]at this
    exact⟨this.1.1,this.1.2⟩
  · intro i o c k g d
    have:=List.all_eq_true.1 (a i o c).2.1 k (List.mem_range.2 d)
    simp only[g,Bool.not_true,Bool.false_or,Bool.and_eq_true,Nat.blt_eq,List.any_eq_true,Bool.or_eq_true]at this
    obtain⟨s,e,j,f⟩:=this
    refine⟨s,e,j,?_⟩
    rcases f with f|f
    · exact .inl (Nat.eq_of_beq_eq_true f)
    · exact .inr f
  · intro i o c cs b e
    have:=(a i o c).2.2.1
    rw[e]at this
    cases this
  · intro i x n g p
    obtain⟨o,c⟩:∃o,l[i]? = some o:=⟨_,List.getElem?_eq_getElem n⟩
    have:=(a i o c).2.2.2
    rw[if_pos (by simpa using g)]at this
    exact List.all_eq_true.1 this x (List.mem_range.2 p)
  · intro i x u r n p g d t
    have:=(a i u n).2.2.2
    rw[if_neg (by simpa using g)]at this
    have:=List.all_eq_true.1 this x (List.mem_range.2 d)
    simp only[t,Bool.false_or,p,Bool.and_eq_true,Bool.or_eq_true,Bool.not_eq_true']at this
    exact this
section
variable {P:Program} {Q:Exit->Act->World->Prop} {l:List Oper} {m:List Nat} {k0:Nat}
theorem RW.any (hc:Chk l m k0):∀(fuel:Nat) (L:List Nat) (c:Array Bool) (a:Act) (w:World) (H:List (Nat×World)) (W:List (Nat×(World->Prop))),
  L.length<=fuel->c.size=l.length->L.Pairwise (· < ·)->(∀i,i∈L↔i<l.length∧c.getD i true=false)->
  (∀j k,c.getD j false=true->before m j k=true->k<l.length->c.getD k false=true)->
  RW P l.toArray Q (before m) (cV l) k0 L a w H W->wpAny P .any l.toArray Q fuel c a w:=by
 intro fuel
 induction fuel with
 |zero=>
  intro L c a w H W I U n d N h
  have hL:L=[]:=List.eq_nil_of_length_eq_zero (by omega)
  subst hL
  refine⟨?_,h⟩
  rw[List.eq_nil_iff_forall_not_mem]
  intro i hi
  obtain⟨X,o,z,_⟩:=mem_ready.1 hi
  have:i<l.length:=by have:=(Array.getElem?_eq_some_iff.1 z).1;simpa using this
  have:=(d i).2 ⟨this,X⟩
  simp at this
 | succ fuel ih =>
  intro L c a w H W I U n d N h
  refine⟨fun D=> ?_,fun i hi=> ?_⟩
  ·cases L with
   |nil=>exact h
   | cons i L =>
    exfalso
    obtain⟨p,X⟩:=(d i).1 List.mem_cons_self
    obtain⟨o,z⟩:∃o,l[i]? = some o:=⟨_,List.getElem?_eq_getElem p⟩
    have:i∈Region.ready .any l.toArray c:=by
     refine mem_ready.2 ⟨X,o,by simpa using z,fun e he M=> ?_⟩
     have ah:e.on∈rV o:=List.mem_map.2 ⟨e,List.mem_filter.2 ⟨by simpa using he,M⟩,rfl⟩
     have an:=(hc.edge i o z e.on ah).1
     cases hg:c.getD e.on true with
     |false=>
      have hm:=(d e.on).2 ⟨by omega,hg⟩
      rcases List.mem_cons.1 hm with e1|e1
      ·omega
      ·have:=(List.pairwise_cons.1 n).1 _ e1;omega
     |true=>
      have:e.on<c.size:=by omega
      simp[this]at hg ⊢
      exact hg
    rw[D]at this
    simp at this
  ·obtain⟨X,o,af,O⟩:=mem_ready.1 hi
   have z:l[i]? = some o:=by simpa using af
   have p:i<l.length:=bA z
   have ai:i∈L:=(d i).2 ⟨p,X⟩
   obtain⟨t,L2,rfl⟩:=List.append_of_mem ai
   have hs:=List.pairwise_append.1 n
   have A:∀x∈t,x<i:=fun x s=>hs.2.2 x s i List.mem_cons_self
   have Z:∀x∈L2,i<x:=fun x s=>(List.pairwise_cons.1 hs.2.1).1 x s
   have F:∀k,before m i k=true->k<l.length->c.getD k false=true:=by
    intro k V ae
    obtain⟨_,e,he,R⟩:=hc.trans i o z k V ae
    obtain⟨ed,ag,rfl⟩:=List.mem_map.1 he
    obtain⟨aa,ab⟩:=List.mem_filter.1 ag
    have hl:=O ed (by simpa using aa) ab
    rcases R with rfl|R
    ·exact hl
    ·exact N _ _ hl R ae
   have T:∀x∈t,before m i x=false:=by
    intro x s
    cases M:before m i x with
    |false=>rfl
    |true=>
     have E:=((d x).1 (by simp[s]))
     have:=F x M E.1
     have ak:x<c.size:=by omega
     simp[ak]at this E
     rw[this]at E
     simp at E
   -- the rest
   have next:∀u w' H' K,RW P l.toArray Q (before m) (cV l) k0 (t++L2) u w' H' K->wpAny P .any l.toArray Q fuel (c.setIfInBounds i true) u w':=by
    intro u w' H' K D
    refine ih (t++L2) _ u w' H' K ?_ (by simp[U]) ?_ ?_ ?_ D
    ·simp at I ⊢;omega
    ·exact List.pairwise_append.2 ⟨hs.1,(List.pairwise_cons.1 hs.2.1).2,fun x s y hy=>by have:=A x s;have:=Z y hy;omega⟩
    ·intro j
     by_cases e:i=j
     ·subst e
      constructor
      ·intro f
       rcases List.mem_append.1 f with f|f
       ·have:=A i f;omega
       ·have:=Z i f;omega
      ·rintro⟨_,f⟩
       simp[U,p]at f
     ·rw[getD_set_ne true e]
      have:=d j
      simp only[List.mem_append,List.mem_cons]at this ⊢
      constructor
      ·intro f;exact this.1 (by rcases f with f|f;exact .inl f;exact .inr (.inr f))
      ·intro f
       rcases this.2 f with f|rfl|f
       ·exact .inl f
       ·exact absurd rfl e
       ·exact .inr f
    ·intro j k f ad V
     by_cases e:i=j
     ·subst e;exact getD_set_true (F k ad V)
     ·rw[getD_set_ne false e]at f
      exact getD_set_true (N j k f ad V)
   have r:l.toArray[i]? = some o:=af
   by_cases V:k0<=i
   ·have Y:t=[]:=by
     cases t with
     |nil=>rfl
     |cons x t=>
      have g:=T x List.mem_cons_self
      have q:=hc.tail i x p V (A x List.mem_cons_self)
      rw[g]at q;cases q
    subst Y
    simp only[List.nil_append,RW,r]at h
    unfold wpOp
    simp only[r]
    split
    ·rename_i hw
     rw[if_pos hw]at h
     rcases h with⟨_,h|h⟩|⟨h,_⟩|⟨h,_⟩
     ·exact .inl (Oper.wp_mono (fun u w' D=>next u w' _ _ D) h)
     ·exact .inr (Oper.rnd_mono (fun u w' D=>next u w' _ _ D) h)
     ·omega
     ·omega
    ·rename_i hw
     rw[if_neg hw]at h
     exact next _ _ _ _ h
   ·have S:i<k0:=by omega
    have G:∀x∈t,GT l.toArray (before m) (cV l) x i∧x<k0:=by
     intro x s
     have aj:=A x s
     obtain⟨ox,C⟩:∃ox,l[x]? = some ox:=⟨_,List.getElem?_eq_getElem (by omega)⟩
     have ac:=hc.ind i x o ox z C S aj (T x s)
     refine⟨⟨T x s,?_,?_,?_⟩,by omega⟩
     ·cases M:before m x i with
      |false=>rfl
      |true=>have:=(hc.trans x ox C i M p).1;omega
     ·intro am al g q
      have e1:ox=am:=by simpa [C]using g
      have e2:o=al:=by simpa [z]using q
      rw[<-e1,<-e2];exact ac.1
     ·rcases ac.2 with g|g
      ·exact .inl (by simp[cV,C,g])
      ·exact .inr (by simp[cV,z,g])
    have J:∀(i:Nat) (o:Oper),l.toArray[i]? = some o->∀cs b,o.op ≠ .select cs b:=fun i o h=>hc.sel i o (by simpa using h)
    unfold wpOp
    simp only[r]
    cases hl:cV l i with
    | false =>
     rcases CU J r S hl t a w H W G h with⟨g,q⟩|⟨g,v,B,⟨M,_,D⟩,q⟩
     ·rw[g];exact next _ _ _ _ q
     ·rw[g]
      exact .inl (by simp only[Oper.wp,D w M,Oper.upon];exact next _ _ _ _ q)
    | true =>
     rcases DO J r S hl t a w H W G h with⟨g,q⟩|⟨g,q⟩
     ·rw[g];exact next _ _ _ _ q
     ·rw[g]
      exact .inl (HT (nF (fun u w' hh=>next u w' _ _ hh.2) q))
theorem Iv {f:Option Nat} {id:Nat} {a:Act} {w:World} (d:l.all iI=true) (e:P.follows .mixedOrders=true) (hc:chk l m k0=true)
  (h:RW P l.toArray Q (before m) (cV l) k0 (List.range l.length) a w.drew [] []):(Code.region id l.toArray true).wpr f P Q a w:=by
 refine Cg d e ?_
 refine RW.any (SQ hc) _ (List.range l.length) _ a _ [] [] (by simp) (by simp) List.pairwise_lt_range ?_ ?_ h
 ·intro i
  simp only[List.mem_range]
  constructor
  ·intro c;exact⟨c,by simp[c]⟩
  ·exact fun h=>h.1
 ·intro j k b
  simp[Array.getElem?_replicate]at b
  split at b<;>simp at b

def Xv (c:tP):List (Nat×List aX×List aX)->List (Nat×World)->Prop
 | [],[]=>True
 |h::H,x::X=>h.1=x.1∧St c h.2.1 h.2.2 x.2∧Xv c H X
 |_,_=>False
def Nj (c:tP):List (Nat×List aX×List aX)->List (Nat×(World->Prop))->Prop
 | [],[]=>True
 |b::B,x::X=>x=(b.1,St c b.2.1 b.2.2)∧Nj c B X
 |_,_=>False
def JR (c:tP) (n:Sz) (σ:Fr) (M L:List aX) (H b:List (Nat×List aX×List aX)) (G:Act->World->List (Nat×World)->List (Nat×(World->Prop))->Prop):Prop:=
 ∀a w X Y,Dl n σ a->St c M L w->Xv c H X->Nj c b Y->G a w X Y
variable {c:tP} {n:Sz} {σ:Fr} {M L Mx Lx:List aX} {H Bs:List (Nat×List aX×List aX)}
theorem JR.start {e:Option Nat} {id:Nat} (m:List Nat) (k0:Nat) (d:P.follows .mixedOrders=true) (hc:chk l m k0=true)
  (h:JR c n σ M L [] [] (RW P l.toArray Q (before m) (cV l) k0 (List.range l.length))) (b:l.all iI=true:=by rfl):J c n σ M L ((Code.region id l.toArray true).wpr e P Q):=fun a w s t=>
 Iv b d hc (h a w.drew [] [] s (t.ext ((Below.refl _ _).drew)) trivial trivial)
structure EL (M L Mx Lx:List aX):Prop where
 hM:aS M Mx
 hL:xT L Lx
theorem EL.st {M L Mx Lx:List aX} (h:EL M L Mx Lx) {w:World} (t:St c M L w):St c Mx Lx w:=t.weak h.hM h.hL
def aK (A:Nat->Bool) (Mx Lx:List aX):List (Nat×List aX×List aX)->Prop
 | []=>True
 |h::H=>(A h.1=true∨EL h.2.1 h.2.2 Mx Lx)∧aK A Mx Lx H
def zL (A:Nat->Bool) (M L:List aX):List (Nat×List aX×List aX)->Prop
 | []=>True
 |b::B=>(A b.1=true∨EL M L b.2.1 b.2.2)∧zL A M L B
theorem aK.use {A:Nat->Bool} {Mx Lx:List aX}:∀{H:List (Nat×List aX×List aX)} {X:List (Nat×World)},aK A Mx Lx H->Xv c H X->∀x∈X,A x.1=false->St c Mx Lx x.2
 | [],[],_,_,x,a,_=>by simp at a
 | [],_::_,_,h,_,_,_=>h.elim
 |_::_,[],_,h,_,_,_=>h.elim
 | h :: H, y :: X, ho, hi, x, a, hA => by
  rcases List.mem_cons.1 a with rfl|a
  ·rcases ho.1 with b|b
   ·rw[hi.1,hA]at b;cases b
   ·exact b.st hi.2.1
  ·exact aK.use ho.2 hi.2.2 x a hA
theorem zL.use {A:Nat->Bool} {M L:List aX} {w:World} (t:St c M L w):∀{B:List (Nat×List aX×List aX)} {X:List (Nat×(World->Prop))},zL A M L B->Nj c B X->∀x∈X,A x.1=false->x.2 w
 | [],[],_,_,x,a,_=>by simp at a
 | [],_::_,_,h,_,_,_=>h.elim
 |_::_,[],_,h,_,_,_=>h.elim
 | b :: B, y :: X, ho, hi, x, a, hA => by
  rcases List.mem_cons.1 a with rfl|a
  ·rcases ho.1 with d|d
   ·rw[hi.1]at hA;rw[d]at hA;cases hA
   ·rw[hi.1];exact d.st t
  ·exact zL.use t ho.2 hi.2 x a hA
theorem JR.quiet {i:Nat} {rest:List Nat} {d:Nat} {b:Op} {ty:TypeId} {pos:String} {aft:Array Edge} {v:Value} (Mx Lx:List aX)
  (g:l[i]? = some ⟨some d,b,ty,pos,aft,none⟩) (q:Nat.blt i k0=true) (r:dX b=false) (u:Y P c n σ Mx Lx ⟨some d,b,ty,pos,aft,none⟩ v) (k:EL M L Mx Lx) (j:aK (before m i) Mx Lx H) (p:Nat.blt d n.sz=true)
  (h:JR c n ((d,v)::σ) M L H ((i,Mx,Lx)::Bs) (RW P l.toArray Q (before m) (cV l) k0 rest)):JR c n σ M L H Bs (RW P l.toArray Q (before m) (cV l) k0 (i::rest)):=fun a w X Y s t f o=>by
 have e:l.toArray[i]? = some ⟨some d,b,ty,pos,aft,none⟩:=by simpa using g
 simp only[RW,e]
 rw[if_pos (by simp[Region.wanted])]
 refine .inr (.inl ⟨by simpa [Nat.blt_eq]using q,by simp[cV,g,r],v,St c Mx Lx,⟨k.st t,j.use f,fun w' x=>u a w' s x⟩,h _ w X _ (s.put d v p) t f ⟨rfl,o⟩⟩)
theorem Qj {i:Nat} {rest:List Nat} {d:Nat} {e:Op} {ty:TypeId} {pos:String} {aft:Array Edge} {j:Nat} {b:Bool} {v:Value} (Mx Lx:List aX)
  (k:l[i]? = some ⟨some d,e,ty,pos,aft,some (j,b)⟩) (x:Nat.blt i k0=true) (y:dX e=false) (u:gv l.toArray σ j=some b) (z:Y P c n σ Mx Lx ⟨some d,e,ty,pos,aft,some (j,b)⟩ v) (p:EL M L Mx Lx) (o:aK (before m i) Mx Lx H) (r:Nat.blt d n.sz=true)
  (h:JR c n ((d,v)::σ) M L H ((i,Mx,Lx)::Bs) (RW P l.toArray Q (before m) (cV l) k0 rest)):JR c n σ M L H Bs (RW P l.toArray Q (before m) (cV l) k0 (i::rest)):=fun a w X Y s t g q=>by
 have f:l.toArray[i]? = some ⟨some d,e,ty,pos,aft,some (j,b)⟩:=by simpa using k
 simp only[RW,f]
 rw[if_pos (by simp[Region.wanted,yH s u])]
 refine .inr (.inl ⟨by simpa [Nat.blt_eq]using x,by simp[cV,k,y],v,St c Mx Lx,⟨p.st t,o.use g,fun w' A=>z a w' s A⟩,h _ w X _ (s.put d v r) t g ⟨rfl,q⟩⟩)
theorem eV {i:Nat} {rest:List Nat} {d:Nat} {g:Op} {ty:TypeId} {pos:String} {aft:Array Edge} {j:Nat} {b f:Bool}
  (u:l[i]? = some ⟨some d,g,ty,pos,aft,some (j,b)⟩) (r:gv l.toArray σ j=some f) (p:(f==b)=false) (q:Nat.blt d n.sz=true)
  (h:JR c n ((d,undef)::σ) M L H Bs (RW P l.toArray Q (before m) (cV l) k0 rest)):JR c n σ M L H Bs (RW P l.toArray Q (before m) (cV l) k0 (i::rest)):=fun a w X Y s t k o=>by
 have e:l.toArray[i]? = some ⟨some d,g,ty,pos,aft,some (j,b)⟩:=by simpa using u
 simp only[RW,e]
 rw[if_neg (by simp[Region.wanted,yH s r,p])]
 exact h _ w X Y (s.put d undef q) t k o
theorem JR.guard {i f:Nat} {rest:List Nat} {d:Option Tmp} {q:Op} {ty:TypeId} {pos:String} {aft:Array Edge} {j:Nat} {e b:Bool}
  (_:l[i]? = some ⟨d,q,ty,pos,aft,some (j,b)⟩) (_:(l[j]?).bind (·.dst)=some f) (k:lk σ f=some (.bool e))
  (p:e=true->JR c n ((f,.bool true)::σ) M L H Bs (RW P l.toArray Q (before m) (cV l) k0 (i::rest)))
  (o:e=false->JR c n ((f,.bool false)::σ) M L H Bs (RW P l.toArray Q (before m) (cV l) k0 (i::rest))):JR c n σ M L H Bs (RW P l.toArray Q (before m) (cV l) k0 (i::rest)):=by
 cases e
 ·exact fun a w X Y s t g h=>o rfl a w X Y (s.over (s.slot _ _ k)) t g h
 ·exact fun a w X Y s t g h=>p rfl a w X Y (s.over (s.slot _ _ k)) t g h
theorem IK {i a:Nat} {rest:List Nat} {d:Option Tmp} {q:Op} {ty:TypeId} {pos:String} {aft:Array Edge} {j:Nat} {p:Prop} {_:Decidable p} {b:Bool}
  (g:l[i]? = some ⟨d,q,ty,pos,aft,some (j,b)⟩) (k:(l[j]?).bind (·.dst)=some a) (f:lk σ a=some (.bool (decide p)))
  (o:p->JR c n ((a,.bool true)::σ) M L H Bs (RW P l.toArray Q (before m) (cV l) k0 (i::rest)))
  (e:¬p->JR c n ((a,.bool false)::σ) M L H Bs (RW P l.toArray Q (before m) (cV l) k0 (i::rest))):JR c n σ M L H Bs (RW P l.toArray Q (before m) (cV l) k0 (i::rest)):=
 JR.guard g k f (fun h=>o (of_decide_eq_true h)) (fun h=>e (of_decide_eq_false h))

def aG (P:Program) (c:tP) (n:Sz) (σ:Fr) (M L:List aX) (o:Oper) {A:Type} (b:A->Value) (M' L':A->List aX):Prop:=
 ∀a w,Dl n σ a->St c M L w->o.wp P a w (fun d w'=>∃x:A,d=a.put o.dst (b x)∧St c (M' x) (L' x) w') Ns
theorem aE {A:Type} {b:A->Value} {M' L':A->List aX} {ops:Array Oper} {rest:List Oper} {d:Nat} {e:Op} {ty:TypeId} {pos:String} {aft:Array Edge}
  (i:aG P c n σ M L ⟨some d,e,ty,pos,aft,none⟩ b M' L') (f:Nat.blt d n.sz=true) (h:∀x,J c n ((d,b x)::σ) (M' x) (L' x) (wpList P ops Q rest)):
  J c n σ M L (wpList P ops Q (⟨some d,e,ty,pos,aft,none⟩::rest)):=fun a w s t=>
 kC rfl (HT (nF (fun k w' ⟨x,g,j⟩=>by subst g;exact h x _ w' (s.put d _ f) j) (i a w s t)))
theorem pB {A:Type} {e:A->Value} {M' L':A->List aX} {ops:Array Oper} {rest:List Oper} {d:Nat} {f:Op} {ty:TypeId} {pos:String} {aft:Array Edge} {j:Nat} {b:Bool}
  (k:gv ops σ j=some b) (o:aG P c n σ M L ⟨some d,f,ty,pos,aft,some (j,b)⟩ e M' L') (g:Nat.blt d n.sz=true) (h:∀x,J c n ((d,e x)::σ) (M' x) (L' x) (wpList P ops Q rest)):
  J c n σ M L (wpList P ops Q (⟨some d,f,ty,pos,aft,some (j,b)⟩::rest)):=fun a w s t=>
 kC (by simp[Region.wanted,yH s k]) (HT (nF (fun q w' ⟨x,i,p⟩=>by subst i;exact h x _ w' (s.put d _ g) p) (o a w s t)))
theorem JR.loud {A:Type} {b:A->Value} {M' L':A->List aX} {i:Nat} {rest:List Nat} {d:Nat} {e:Op} {ty:TypeId} {pos:String} {aft:Array Edge}
  (j:l[i]? = some ⟨some d,e,ty,pos,aft,none⟩) (r:Nat.blt i k0=true) (u:dX e=true) (v:aG P c n σ M L ⟨some d,e,ty,pos,aft,none⟩ b M' L') (q:Nat.blt d n.sz=true)
  (o:∀x,zL (before m i) (M' x) (L' x) Bs) (h:∀x,JR c n ((d,b x)::σ) (M' x) (L' x) ((i,M,L)::H) Bs (RW P l.toArray Q (before m) (cV l) k0 rest)):
  JR c n σ M L H Bs (RW P l.toArray Q (before m) (cV l) k0 (i::rest)):=fun a w X Y s t p g=>by
 have f:l.toArray[i]? = some ⟨some d,e,ty,pos,aft,none⟩:=by simpa using j
 simp only[RW,f]
 rw[if_pos (by simp[Region.wanted])]
 refine .inr (.inr ⟨by simpa [Nat.blt_eq]using r,by simp[cV,j,u],nF ?_ (v a w s t)⟩)
 rintro y w' ⟨x,rfl,k⟩
 exact⟨(o x).use k g,h x _ w' _ Y (s.put d _ q) k ⟨rfl,t,p⟩ g⟩
theorem RW.tail {X:List (Nat×World)} {Y:List (Nat×(World->Prop))}:∀(r:List Nat) (os:List Oper),(∀i∈r,k0<=i)->r.map (l[·]?)=os.map some->∀a w,wpList P l.toArray Q os a w->RW P l.toArray Q (before m) (cV l) k0 r a w X Y
 | [],[],_,_,_,_,h=>h
 | [],_::_,_,e,_,_,_=>by simp at e
 |_::_,[],_,e,_,_,_=>by simp at e
 | i :: r, o :: os, hk, e, a, w, h => by
  simp only[List.map_cons,List.cons.injEq]at e
  have b:l.toArray[i]? = some o:=by simpa using e.1
  have f:=fun a w=>RW.tail (X:=X) (Y:=Y) r os (fun i g=>hk i (List.mem_cons_of_mem _ g)) e.2 a w
  simp only[RW,b]
  unfold wpList at h
  split
  ·rename_i d
   rw[if_pos d]at h
   refine .inl ⟨hk i List.mem_cons_self,?_⟩
   rcases h with h|h
   ·exact .inl (Oper.wp_mono (fun a w h=>f a w h) h)
   ·exact .inr (Oper.rnd_mono (fun a w h=>f a w h) h)
  ·rename_i d
   rw[if_neg d]at h
   exact f _ _ h
theorem JR.tail {r:List Nat} {os:List Oper} (e:r.all (Nat.ble k0)=true) (b:r.map (l[·]?)=os.map some) (h:J c n σ M L (wpList P l.toArray Q os)):JR c n σ M L H Bs (RW P l.toArray Q (before m) (cV l) k0 r):=
 fun a w _ _ s t _ _=>RW.tail r os (fun i d=>by simpa using List.all_eq_true.1 e i d) b a w (h a w s t)
end
end
section

structure c_ (α:Type) where
 sz:Nat
 pos:0<sz
 enc:α->List Value
 len:∀x,(enc x).length=sz
def c_.int (k:IntKind):c_ Int:=⟨1,Nat.one_pos,fun x=>[.int k x],fun _=>rfl⟩
def c_.bool:c_ Bool:=⟨1,Nat.one_pos,fun x=>[.bool x],fun _=>rfl⟩
def c_.raw:c_ Value:=⟨1,Nat.one_pos,fun x=>[x],fun _=>rfl⟩
def cellsOf {a:Type} (e:c_ a) (xs:List a):List Value:=xs.flatMap e.enc
theorem dG {a:Type} (e:c_ a) (xs:List a):(cellsOf e xs).length=xs.length*e.sz:=by
 induction xs with
 |nil=>simp[cellsOf]
 |cons x xs b=>simp only[cellsOf,List.flatMap_cons,List.length_append,e.len,List.length_cons,Nat.add_mul]at *;omega
theorem tU {b:Type} (e:c_ b) (xs:List b):∀(i:Nat) (x:b),xs[i]? = some x->∀j u,(e.enc x)[j]? = some u->(cellsOf e xs)[i*e.sz+j]? = some u:=by
 induction xs with
 |nil=>intro i x h;simp at h
 | cons y xs ih =>
  intro i x h j u a
  simp only[cellsOf,List.flatMap_cons]
  cases i with
  |zero=>
   simp at h;subst h
   rw[List.getElem?_append_left (by have:=bA a;omega)]
   simpa using a
  |succ i=>
   simp only[List.getElem?_cons_succ]at h
   rw[List.getElem?_append_right (by rw[e.len,Nat.add_mul];omega),e.len]
   have:(i+1)*e.sz+j - e.sz=i*e.sz+j:=by rw[Nat.add_mul];omega
   rw[this]
   exact ih i x h j u a
theorem lM {a:Type} (e:c_ a) (xs ys:List a):cellsOf e (xs++ys)=cellsOf e xs++cellsOf e ys:=by simp[cellsOf]

def Bv {d:Type} (e:c_ d) (w:World) (F:Nat->Prop) (v:Value) (xs:List d):Prop:=
 xs.length<=140737488355328∧(cellsOf e xs).all one=true∧((v = .slice none 0 0∧xs=[])∨∃b c cap T,∃a:Array Value,v = .slice (some ⟨b,c,none⟩) xs.length cap∧F b∧w.heap[b]? = some (.cells a T (0,0))∧
  xs.length<=cap∧c+cap*e.sz<=a.size∧(a.toList.drop c).take (xs.length*e.sz)=cellsOf e xs)
def Ar {f:Type} (e:c_ f) (v:Value) (xs:List f):aX where
 p w F:=Bv e w F v xs
 mono:=fun⟨g,i,h⟩ m=>⟨g,i,by
  rcases h with h|⟨b,c,cap,T,a,n,l,d,r⟩
  ·exact .inl h
  ·obtain⟨j,k⟩:=m b l (Array.getElem?_eq_some_iff.1 d).1
   exact .inr ⟨b,c,cap,T,a,n,j,by rw[k];exact d,r⟩⟩
section
variable {α:Type} {e:c_ α} {w:World} {F:Nat->Prop} {v:Value} {xs:List α}
theorem Bv.cell (h:Bv e w F v xs) {i:Nat} {x:α} (c:xs[i]? = some x) {j:Nat} {u:Value} (k:(e.enc x)[j]? = some u):w.cell? (Ix v (i*e.sz+j))=some u:=by
 obtain⟨_,_,h⟩:=h
 rcases h with⟨_,h⟩|⟨b,m,cap,T,d,l,_,f,n,hc,g⟩
 ·subst h;simp at c
 ·have a:=tU e xs i x c j u k
  rw[<-g,List.getElem?_take]at a
  split at a
  ·rw[List.getElem?_drop]at a
   subst l
   simp only[Ix,dK]
   simp[World.cell?,f]
   simpa using a
  ·cases a
theorem KV (h:Bv e w F v xs) (f:xs≠[]) (o:Nat):w.frozen? (Ix v o)=false:=by
 obtain⟨_,_,h⟩:=h
 rcases h with⟨_,h⟩|⟨b,g,cap,T,a,d,_,c,_⟩
 ·exact absurd h f
 ·subst d;simp only[Ix,dK];simp[World.frozen?,c]
end
section
variable {P:Program} {rd:Option Nat} {c:tP} {n:Sz} {σ:Fr} {M L:List aX} {Q:Exit->Act->World->Prop} {ops:Array Oper} {rest:List Oper}
variable {d:Option Tmp} {D:Nat} {ty:TypeId} {pos:String} {aft:Array Edge} {g:Option (Nat×Bool)}
variable {α:Type} {e:c_ α}
theorem eM [cA P] (j:Nat) {T E:TypeId} {C F l G:Nat} {z H:Value} {o:TypeDesc} {x y:Operand} {v:Value} {i:Int} {xs:List α} (A:ev σ x=some v) (B:ev σ y=some (.int .i64 i)) (u:M[j]? = some (Ar e v xs))
  (r:cA.tab P T=some ⟨.slice E,C,F,z⟩) (q:cA.tab P E=some ⟨o,l,G,H⟩) (p:0<=i) (k:i<xs.length):
  Y P c n σ M L ⟨d,.indexAddr T x y,ty,pos,aft,g⟩ (Cp v (i.toNat*l)):=fun a w s t=>by
 obtain⟨S,_,_,h⟩:=t.res u
 rcases h with⟨rfl,rfl⟩|⟨b,f,cap,T',m,rfl,_⟩
 ·simp at k;omega
 ·simp[execOp,s.eval A,s.eval B,Fv w (cA.ok r) rfl (cA.ok q) b f _ cap i p k]
theorem Vj [cA P] [Inhabited α] (j:Nat) {T:TypeId} {B q o:Nat} {z:Value} {b:TypeDesc} {x:Operand} {v:Value} {i:Int} {xs:List α} {u:Value} (A:ev σ x=some (Cp v (i.toNat*q+o))) (p:M[j]? = some (Ar e v xs))
  (l:cA.tab P T=some ⟨b,1,B,z⟩) (m:uA b=false) (r:e.sz=q) (y:(e.enc (at' xs i))[o]? = some u) (f:0<=i) (k:i<xs.length):
  Y P c n σ M L ⟨d,.load T x,ty,pos,aft,g⟩ u:=fun a w s t=>by
 obtain⟨S,h⟩:=t.res p
 have:=Bv.cell h (jW f k) y
 rw[r]at this
 simp[execOp,s.eval A,Cp,wD (cA.ok l) m this]
theorem Si [cA P] [Inhabited α] (j:Nat) {T:TypeId} {s:Nat} {z:Value} {a:TypeDesc} {x:Operand} {v:Value} {i:Int} {xs:List α} {u:Value} (r:ev σ x=some (Cp v (i.toNat*1))) (l:M[j]? = some (Ar e v xs))
  (h:cA.tab P T=some ⟨a,1,s,z⟩) (k:uA a=false) (m:e.sz=1) (p:(e.enc (at' xs i))[0]? = some u) (b:0<=i) (f:i<xs.length):
  Y P c n σ M L ⟨d,.load T x,ty,pos,aft,g⟩ u:=Vj j (q:=1) (o:=0) r l h k m p b f
theorem uE {xs:List α} (b:e.sz=1) {i:Nat} {y:α} {u:Value} (f:e.enc y=[u]):cellsOf e (xs.set i y)=(cellsOf e xs).set i u:=by
 induction xs generalizing i with
 |nil=>simp[cellsOf]
 | cons x xs ih =>
  obtain⟨p,a⟩:∃p,e.enc x=[p]:=by
   have:=e.len x
   rw[b]at this
   exact List.length_eq_one_iff.1 this
  cases i with
  |zero=>simp[cellsOf,a,f]
  |succ i=>simp only[List.set_cons_succ,cellsOf,List.flatMap_cons,a,List.singleton_append]at *;rw[ih]
theorem take_set {a:Type} (l:List a) (k i:Nat) (u:a):(l.set i u).take k=(l.take k).set i u:=by
 rw[List.take_set]
theorem Lb [cA P] (j:Nat) {T:TypeId} {s2:Nat} {z:Value} {Y:TypeDesc} {x y:Operand} {v u:Value} {i:Int} {xs:List α} (X:α) (W:ev σ x=some (Cp v (i.toNat*1))) (hy:ev σ y=some u) (V:e.enc X=[u]) (o:one u=true)
  (S:M[j]? = some (Ar e v xs)) (Z:cA.tab P T=some ⟨Y,1,s2,z⟩) (G:e.sz=1) (h0:0<=i) (R:i<xs.length)
  (h:J c n σ (M.set j (Ar e v (xs.set i.toNat X))) L (wpList P ops Q rest)):
  J c n σ M L (wpList P ops Q (⟨none,.store T x y,ty,pos,aft,none⟩::rest)):=fun a w s t=>by
 refine kC rfl ?_
 obtain⟨F,E⟩:=t.res S
 have U:i.toNat<xs.length:=by omega
 have A:xs[i.toNat]? = some xs[i.toNat]:=List.getElem?_eq_getElem U
 have B:xs≠[]:=by intro e;subst e;simp at U
 obtain⟨p,hp⟩:∃p,e.enc xs[i.toNat]=[p]:=List.length_eq_one_iff.1 ((e.len _).trans G)
 have f:=Bv.cell E A (j:=0) (u:=p) (by rw[hp];rfl)
 rw[G,Nat.add_zero,Nat.mul_one]at f
 rw[Nat.mul_one]at W
 have m:=KV E B i.toNat
 have C:(execOp a.eval ⟨none,.store T x y,ty,pos,aft,none⟩).run P w = .ok .skip (w.setCell (Ix v i.toNat) u):=by
  simp only[execOp,s.eval W,s.eval hy,Cp]
  simp[A_ (cA.ok Z) rfl o f m]
 simp only[Oper.wp,C,Oper.upon]
 refine h _ _ s (t.upd S rfl rfl rfl (by simp[World.setCell]) fun F E _=> ?_)
 obtain⟨hl,R,K⟩:=E
 rcases K with⟨_,K⟩|⟨b,l,cap,T',H,hv,r,hb,hk,hc,ht⟩
 ·exact absurd K B
 ·subst hv
  have ha:Ix (.slice (some ⟨b,l,none⟩) xs.length cap) i.toNat=⟨b,l+i.toNat,none⟩:=by simp[Ix,dK]
  rw[ha]
  refine⟨fun k _ N=>Below.heap_setCell _ _ _ _ (fun e=>N (by simp only at e;subst e;exact r)),F,⟨by simpa using hl,?_,.inr ⟨b,l,cap,T',H.setIfInBounds (l+i.toNat) u,by simp,r,?_,by simpa using hk,by simpa using hc,?_⟩⟩,fun _ h=> .inl h⟩
  ·rw[uE G V,List.all_eq_true]
   intro q O
   rcases List.mem_or_eq_of_mem_set O with I|I
   ·exact List.all_eq_true.1 R q I
   ·rw[I];exact o
  ·simp[World.setCell,Array.getElem?_modify,hb]
  ·rw[uE G V,<-ht,Array.toList_setIfInBounds,List.length_set,<-take_set]
   congr 1
   rw[List.drop_set,if_neg (by omega),Nat.add_sub_cancel_left]

theorem St.allocAr {w:World} (t:St c M L w) (cs:List Value) (T:TypeId) {xs:List α} {k:Nat} (h:xs.length=k) (o:xs.length<=140737488355328) (hc:cs=cellsOf e xs) (j:(cellsOf e xs).all one=true):
  St c (Ar e (.slice (some ⟨w.heap.size,0,none⟩) k k) xs::M) L (w.alloc (.cells cs.toArray T)):=by
 have q:=t.alloc cs T
 obtain⟨p,F,a,l⟩:=q
 refine⟨p,F,⟨fun i m b=> ?_,a.rng,a.dis⟩,l⟩
 cases i with
 | zero =>
  simp at b;subst b
  have f:=a.res 0 _ rfl
  refine⟨o,j,.inr ⟨w.heap.size,0,k,T,cs.toArray,by rw[h],f.1,f.2,by omega,?_,?_⟩⟩
  ·simp only[Nat.zero_add,List.size_toArray,hc,dG,h];exact Nat.le_refl _
  ·simp only[List.drop_zero,hc]
   rw[List.take_of_length_le (by rw[dG];exact Nat.le_refl _)]
 |succ i=>exact a.res (i+1) m (by simpa using b)
theorem aG.buildSlice [cA P] {T E:TypeId} {k s1 s2 s3 s4:Nat} {z z':Value} {dE:TypeDesc} {ps:List (Nat×Operand)} {vs:List (Nat×Value)} (xs:List α)
    (hT:cA.tab P T=some ⟨.slice E,s1,s2,z⟩) (hE:cA.tab P E=some ⟨dE,s3,s4,z'⟩) (hs:Nat.ble (k*s3) 16777216=true) (hv:ps.map (fun p=>(p.1,ev σ p.2))=vs.map (fun p=>(p.1,some p.2)))
    (hfill:∀init:Array Value,init.size=k*s3->Instr.fill (fun i=>some (i*s3,s3)) init vs=some (cellsOf e xs).toArray)
    (hk:xs.length=k) (hl:Nat.ble xs.length 140737488355328=true) (h1:(cellsOf e xs).all one=true):
    aG P c n σ M L ⟨d,.buildSlice T k ps.toArray,ty,pos,aft,g⟩ (fun b:Nat=> .slice (some ⟨b,0,none⟩) k k) (fun b=>Ar e (.slice (some ⟨b,0,none⟩) k k) xs::M) (fun _=>L):=fun a w s t=>by
  have hps:ps.map (fun p=>(p.1,a.eval p.2))=vs:=by
    clear hfill
    induction ps generalizing vs with
    |nil=>cases vs<;>simp_all
    | cons p ps ih =>
      cases vs with
      |nil=>simp at hv
      | cons q vs =>
        simp only[List.map_cons,List.cons.injEq,Prod.mk.injEq]at hv
        simp only[List.map_cons,s.eval hv.1.2,hv.1.1,ih hv.2]
  have hsz : ¬ (16777216 < k * s3) := by have : k * s3 ≤ 16777216 := by simpa using hs
                                         omega
  have hrun:(execOp a.eval ⟨d,.buildSlice T k ps.toArray,ty,pos,aft,g⟩).run P w = .ok (.value (.slice (some ⟨w.heap.size,0,none⟩) k k)) (w.alloc (.cells (cellsOf e xs).toArray E)):=by
    simp only[execOp,List.map_toArray,hps,Instr.buildSlice]
    by_cases h0:k*s3=0
    · have hf:=hfill ((Array.range (k*s3)).map ((#[]:Array Value)[· % (#[]:Array Value).size]!)) (by simp)
      simp[(cA.ok hT).run_und w,(cA.ok hE).run_size w,h0]at hf ⊢
      simp[hf,newRow]
    · have hf:=hfill ((Array.range (k*s3)).map (z'.cells[· % z'.cells.size]!)) (by simp)
      simp[(cA.ok hT).run_und w,(cA.ok hE).run_size w,(cA.ok hE).run_zero w,h0,hsz,hf,newRow]
  simp only[Oper.wp,hrun,Oper.upon]
  exact⟨w.heap.size,rfl,t.allocAr (cellsOf e xs) E hk (by simpa using hl) rfl h1⟩
theorem aG.makeSlice [cA P] {T E:TypeId} {J K p q:Nat} {z j:Value} {r:TypeDesc} {x:Operand} {k:Int} (xs:List α)
  (B:cA.tab P T=some ⟨.slice E,J,K,z⟩) (A:cA.tab P E=some ⟨r,p,q,j⟩) (H:ev σ x=some (.int .i64 k)) (u:0<=k) (C:(q:Int)*k<=281474976710656) (y:k<=140737488355328)
  (F:xs.length=k.toNat) (I:(madeCells j.cells (k.toNat*p)).toList=cellsOf e xs) (v:(cellsOf e xs).all one=true):
  aG P c n σ M L ⟨d,.makeSlice T x x,ty,pos,aft,g⟩ (fun b:Nat=> .slice (some ⟨b,0,none⟩) k.toNat k.toNat) (fun b=>Ar e (.slice (some ⟨b,0,none⟩) k.toNat k.toNat) xs::M) (fun _=>L):=fun a w s t=>by
 obtain⟨o,l,m,f,i⟩:=(cA.ok A).info
 simp only at m f i
 have G:=run_make (P:=P) w T E o j (cA.ok B).und l i .i64 .i64 k k u (Int.le_refl _) (by rw[f];exact C) (by omega)
 have h:(execOp a.eval ⟨d,.makeSlice T x x,ty,pos,aft,g⟩).run P w = .ok (.value (.slice (some ⟨w.heap.size,0,none⟩) k.toNat k.toNat)) (w.alloc (.cells (cellsOf e xs).toArray E)):=by
  simp only[execOp,s.eval H]
  have:madeCells j.cells (k.toNat*o.size)=(cellsOf e xs).toArray:=by rw[<-I,m]
  simp[G,this]
 simp only[Oper.wp,h,Oper.upon]
 exact⟨w.heap.size,rfl,t.allocAr (cellsOf e xs) E F (by omega) rfl v⟩

theorem HZ {T ty E:TypeId} {q i:Ty} {w:World} (t:qL P T q) (v:q.desc = .slice E) (s:qL P E i) {b a k cap:Nat} {f:Array Value} {T':TypeId} (u:w.heap[b]? = some (.cells f T' (0,0))) {m:Nat} {x:Value} {o:List Value} (p:Src P i.size T x m o w)
  (h:k+m<=cap) (hc:a+cap*i.size<=f.size):
  (Builtin.append_ #[T,T] ty #[.slice (some ⟨b,a,none⟩) k cap,x]).run P w = .ok (.slice (some ⟨b,a,none⟩) (k+m) cap) (w.setRow b (f.toList.take (a+k*i.size)++o++f.toList.drop (a+k*i.size+o.length)).toArray):=by
 have j:a+k*i.size+0+o.length<=f.size:=by
  rw[p.newsLen]
  have:=Nat.mul_le_mul_right i.size h
  rw[Nat.add_mul]at this
  omega
 have l:=run_storeCells_at P b (a+k*i.size) T' o 0 f w u j p.one
 simp only[Nat.add_zero]at l
 have r:=t.run_und w
 rw[v]at r
 simp[Builtin.append_,r,s.run_size w,p.len,h,p.cells,dK,l]
theorem MB {T ty E:TypeId} {p b:Ty} {w:World} (t:qL P T p) (v:p.desc = .slice E) (s:qL P E b) {base:Option Addr} {k cap:Nat} {a:List Value}
  (h:(Builtin.firstCells b.size k (.slice base k cap)).run P w.drew = .ok a.toArray w.drew) {m:Nat} {x:Value} {o:List Value} (y:Src P b.size T x m o w) (q:cap<k+m) (u:(k+m)*b.bytes<=140737488355328) (r:k+m<=140737488355328):
  (Builtin.append_ #[T,T] ty #[.slice base k cap,x]).run P w = .ok (.slice (some ⟨w.heap.size,0,none⟩) (k+m) (grownCap w (k+m) cap E))
   (w.drew.alloc (.cells ((a++o).toArray++Builtin.zeroCells b.zero.cells (grownCap w (k+m) cap E - (k+m))) E)):=by
 obtain⟨A,l,i,j,z⟩:=s.info
 have f:=growslice_fits (need:=k+m) (old:=cap) (bytes:=b.bytes) q u
 exact run_append_grow_src w T T ty E A b.zero (by rw[t.und,v]) l z base k cap a (by rw[i];exact h) x m o (by rw[i];exact y) q (by omega) (by rw[j];exact f)
theorem Bv.src [cA P] {w:World} {F:Nat->Prop} {v:Value} {xs:List α} {T E:TypeId} {q r:Nat} {z:Value} (h:Bv e w F v xs) (i:cA.tab P T=some ⟨.slice E,q,r,z⟩):Src P e.sz T v xs.length (cellsOf e xs) w:=by
 obtain⟨_,l,h⟩:=h
 have f:∀u∈cellsOf e xs,u.oneCell'=true:=fun u a=>lC (List.all_eq_true.1 l u a)
 rcases h with⟨rfl,rfl⟩|⟨b,p,cap,T',k,rfl,_,m,s,hc,o⟩
 ·exact Src.ofNil w (cA.ok i).und 0
 ·refine Src.ofSlice w (cA.ok i).und _ _ _ _ (dG e xs) (fun j u a=> ?_) f
  rw[<-o,List.getElem?_take]at a
  split at a
  ·rw[List.getElem?_drop]at a
   rw[dK]
   simp[World.cell?,m]
   simpa using a
  ·cases a
theorem Bv.old [cA P] {w:World} {F:Nat->Prop} {v:Value} {xs:List α} (h:Bv e w F v xs):∃base cap,v = .slice base xs.length cap∧(Builtin.firstCells e.sz xs.length v).run P w.drew = .ok (cellsOf e xs).toArray w.drew:=by
 obtain⟨_,o,h⟩:=h
 rcases h with⟨rfl,rfl⟩|⟨b,m,cap,T',f,rfl,_,k,p,hc,l⟩
 ·exact⟨none,0,rfl,run_firstCells_none w.drew e.sz 0 0 0⟩
 ·refine⟨_,cap,rfl,run_firstCells_some w.drew e.sz xs.length _ _ _ _ (dG e xs) (fun j u a=> ?_)⟩
  rw[<-l,List.getElem?_take]at a
  split at a
  ·rw[List.getElem?_drop]at a
   rw[dK]
   have i:w.drew.heap[b]? = some (.cells f T' (0,0)):=k
   simp[World.cell?,i]
   simpa using a
  ·cases a
theorem I_ (b:List Value) (a len:Nat) (f:List Value) (h:a+len+f.length<=b.length):
  ((b.take (a+len)++f++b.drop (a+len+f.length)).drop a).take (len+f.length)=(b.drop a).take len++f:=by
 have i:a+len - a=len:=by omega
 have j:((b.drop a).take len).length=len:=by simp;omega
 rw[List.append_assoc,List.drop_append_of_le_length (by simp;omega),List.drop_take,i,List.take_append,j,List.take_of_length_le (by omega)]
 have k:len+f.length - len=f.length:=by omega
 rw[k,List.take_append_of_le_length (Nat.le_refl _),List.take_of_length_le (Nat.le_refl _)]
structure ZK (w w':World) (F F':Nat->Prop):Prop where
 os:w'.os=w.os
 tape:w'.tape=w.tape
 out:w'.output=w.output
 size:w.heap.size<=w'.heap.size
 same:∀k,k<w.heap.size->¬F k->w'.heap[k]? = w.heap[k]?
 sub:∀k,F' k->F k∨(w.heap.size<=k∧k<w'.heap.size)
theorem Bv.append [cA P] {w:World} {F:Nat->Prop} {v x:Value} {xs ys:List α} {T E ty:TypeId} {s1 s2 R:Nat} {z U:Value} {V:TypeDesc} (i:Bv e w F v xs) (u:Src P e.sz T x ys.length (cellsOf e ys) w) (y:(cellsOf e ys).all one=true)
  (C:cA.tab P T=some ⟨.slice E,s1,s2,z⟩) (A:cA.tab P E=some ⟨V,e.sz,R,U⟩) (W:(xs.length+ys.length)*R<=140737488355328) (J:xs.length+ys.length<=140737488355328) (hz:U.cells.size=e.sz):
  ∃S w' F',(Builtin.append_ #[T,T] ty #[v,x]).run P w = .ok S w'∧Bv e w' F' S (xs++ys)∧ZK w w' F F':=by
 have j:(cellsOf e (xs++ys)).all one=true:=by
  rw[lM,List.all_append,i.2.1,y];rfl
 obtain⟨base,cap,rfl,s⟩:=Bv.old (P:=P) i
 by_cases a:xs.length+ys.length<=cap
 ·have B:=i
  obtain⟨_,_,X⟩:=i
  rcases X with⟨N,rfl⟩|⟨b,o,O,T',f,N,p,q,t,hc,Y⟩
  ·cases N
   have hy:ys=[]:=List.eq_nil_of_length_eq_zero (by simpa using a)
   subst hy
   refine⟨.slice none 0 0,w,F,?_,B,⟨rfl,rfl,rfl,Nat.le_refl _,fun _ _ _=>rfl,fun _ h=> .inl h⟩⟩
   have Z:=(cA.ok C).run_und w
   have l:=u.len w
   have m:=u.cells
   simp only[List.length_nil]at l m
   have G:cellsOf e ([]:List α)=[]:=rfl
   rw[G]at m
   simp[Builtin.append_,Z,(cA.ok A).run_size w,l,m]
  ·cases N
   have K:=HZ (P:=P) (ty:=ty) (cA.ok C) rfl (cA.ok A) q u a hc
   have r:o+xs.length*e.sz+(cellsOf e ys).length<=f.toList.length:=by
    rw[dG]
    have:=Nat.mul_le_mul_right e.sz a
    rw[Nat.add_mul]at this
    simp;omega
   refine⟨_,_,F,K,⟨by simpa using J,j,.inr ⟨b,o,cap,T',_,by simp,p,setRow_heap w b _ _ T' _ q,by simpa using a,?_,?_⟩⟩,⟨rfl,rfl,rfl,by simp,fun k _ I=>setRow_other w b k _ (fun e=>I (by subst e;exact p)),fun _ h=> .inl h⟩⟩
   ·simp only[List.size_toArray,List.length_append,List.length_take,List.length_drop]
    have:f.size=f.toList.length:=by simp
    omega
   ·have:=I_ f.toList o (xs.length*e.sz) (cellsOf e ys) r
    rw[List.length_append,Nat.add_mul,<-dG e ys,lM,<-Y]
    exact this
 ·have K:=MB (P:=P) (ty:=ty) (cA.ok C) rfl (cA.ok A) s u (by omega) W J
  have H:=grownCap_ge w (xs.length+ys.length) cap E
  refine⟨_,_,fun k=>k=w.heap.size,K,⟨by simpa using J,j,.inr ⟨w.heap.size,0,grownCap w (xs.length+ys.length) cap E,E,_,by simp,rfl,heap_alloc_new w.drew _,by simpa using H,?_,?_⟩⟩,
   ⟨rfl,rfl,rfl,by simp,fun k t _=>Below.heap_alloc w.drew _ k t,fun k t=> .inr ⟨by omega,by subst t;simp⟩⟩⟩
  ·simp only[Nat.zero_add,Array.size_append,List.size_toArray,List.length_append,dG,size_zeroCells,hz]
   rw[<-Nat.add_mul,<-Nat.add_mul]
   exact Nat.mul_le_mul_right _ (by omega)
  ·simp only[List.drop_zero,Array.toList_append,List.length_append]
   rw[<-lM,List.take_append_of_le_length (by rw[dG];simp),List.take_of_length_le (by rw[dG];simp)]
theorem St.append [cA P] {w:World} (t:St c M L w) {i:Nat} {v x:Value} {xs ys:List α} {T E ty:TypeId} {F G l:Nat} {z m:Value} {o:TypeDesc} (k:M[i]? = some (Ar e v xs)) (B:Src P e.sz T x ys.length (cellsOf e ys) w) (f:(cellsOf e ys).all one=true)
  (r:cA.tab P T=some ⟨.slice E,F,G,z⟩) (q:cA.tab P E=some ⟨o,e.sz,l,m⟩) (s:(xs.length+ys.length)*l<=140737488355328) (u:xs.length+ys.length<=140737488355328) (C:m.cells.size=e.sz):
  ∃b w',(Builtin.append_ #[T,T] ty #[v,x]).run P w = .ok b w'∧St c (M.set i (Ar e b (xs++ys))) L w':=by
 have H:=t
 obtain⟨y,I,j,h⟩:=H
 obtain⟨b,w',F',A,p,a⟩:=Bv.append (ty:=ty) (j.res i _ k) B f r q s u C
 refine⟨b,w',A,?_⟩
 exact Ck y j h k a.os a.tape a.out a.size a.same p a.sub
end
end
section
section
variable {P:Program} {rd:Option Nat} {c:tP} {n:Sz} {σ:Fr} {M L:List aX} {Q:Exit->Act->World->Prop} {ops:Array Oper} {rest:List Oper}
variable {d:Option Tmp} {D:Nat} {ty:TypeId} {pos:String} {aft:Array Edge} {g:Option (Nat×Bool)}
variable {α:Type} {e:c_ α}
theorem aG.alloc [cA P] {T:TypeId} {h:Ty} {cs:List Value} (i:cA.tab P T=some h) (j:h.zero.cells=cs.toArray):
  aG P c n σ M L ⟨d,.alloc T,ty,pos,aft,g⟩ (fun b:Nat=> .pointer (some ⟨b,0,none⟩)) (fun b=>bS b cs T::M) (fun _=>L):=fun a w s t=>by
 have f:(execOp a.eval ⟨d,.alloc T,ty,pos,aft,g⟩).run P w = .ok (.value (.pointer (some ⟨w.heap.size,0,none⟩))) (w.alloc (.cells cs.toArray T)):=by
  simp[execOp,Fu w (cA.ok i),j]
 simp only[Oper.wp,f,Oper.upon]
 exact⟨w.heap.size,rfl,t.alloc cs T⟩
theorem aG.box {T:TypeId} {x:Operand} {v:Value} {cs:List Value} (h:ev σ x=some v) (i:v.cells=cs.toArray):
  aG P c n σ M L ⟨d,.box T x,ty,pos,aft,g⟩ (fun b:Nat=> .pointer (some ⟨b,0,none⟩)) (fun b=>bS b cs T::M) (fun _=>L):=fun a w s t=>by
 have f:(execOp a.eval ⟨d,.box T x,ty,pos,aft,g⟩).run P w = .ok (.value (.pointer (some ⟨w.heap.size,0,none⟩))) (w.alloc (.cells cs.toArray T)):=by
  simp[execOp,s.eval h,Instr.box,newVar,newRow,i]
 simp only[Oper.wp,f,Oper.upon]
 exact⟨w.heap.size,rfl,t.alloc cs T⟩
theorem aG.call {A:Type} {j:A->Value} {k LO:A->List aX->List aX} {f:FuncId} {xs:List Operand} {vs:List Value} {b:Array TypeId} {p:List aX} (u:aO P f)
  (z:aV P f vs.toArray p j k LO) (C:xs.map (ev σ)=vs.map some) (r:xT L p) (o:∀x l,k x l=k x []++l) (m:∀x l,LO x l=LO x []++l):
  aG P c n σ M L ⟨d,.call ⟨.value (.func f),xs.toArray,b⟩,ty,pos,aft,g⟩ j (fun x=>k x M) (fun x=>LO x L):=fun a w s t=>by
 have i:(execOp a.eval ⟨d,.call ⟨.value (.func f),xs.toArray,b⟩,ty,pos,aft,g⟩).run P w = .ok (.enter f vs.toArray) w:=by
  have e:=YF s C
  simp[execOp,resolve,Act.eval,Deferred.ofValue,invoke,u _ w,e]
 simp only[Oper.wp,i,Oper.upon]
 obtain⟨y,F,q,h⟩:=t
 refine(z w (CJ c F) (fun f v=>h f (r f v))).mono ?_
 rintro e w' ⟨x,rfl,B⟩
 refine⟨x,rfl,?_⟩
 rw[o,m]
 exact St.call y q h B
theorem xZ [cA P] {x y:Operand} {T:TypeId} {b f:Value} {a:Act} (s:Dl n σ a) (h:ev σ x=some b) (i:ev σ y=some f) (w:World):
  (execOp a.eval ⟨d,.call ⟨.builtin .append,#[x,y],#[T,T]⟩,ty,pos,aft,g⟩).run P w=((Builtin.append_ #[T,T] ty #[b,f]).run P w).andThen fun v w'=> .ok (.value v) w':=by
 simp[execOp,resolve,invoke,builtin,s.eval h,s.eval i]
theorem aG.append [cA P] (i j:Nat) {x y:Operand} {v u:Value} {xs ys:List α} {T E:TypeId} {N O f l:Nat} {z m:Value} {o:TypeDesc} (I:ev σ x=some v) (J:ev σ y=some u) (A:M[i]? = some (Ar e v xs)) (B:M[j]? = some (Ar e u ys))
  (k:cA.tab P T=some ⟨.slice E,N,O,z⟩) (q:cA.tab P E=some ⟨o,f,l,m⟩) (p:e.sz=f) (r:(xs.length+ys.length)*l<=140737488355328) (C:xs.length+ys.length<=140737488355328) (K:m.cells.size=f):
  aG P c n σ M L ⟨d,.call ⟨.builtin .append,#[x,y],#[T,T]⟩,ty,pos,aft,g⟩ (fun b:Value=>b) (fun b=>M.set i (Ar e b (xs++ys))) (fun _=>L):=fun a w s t=>by
 subst p
 obtain⟨F,h⟩:=t.res B
 obtain⟨b,w',G,H⟩:=t.append (ty:=ty) A (Bv.src h k) h.2.1 k q r C K
 simp only[Oper.wp,xZ s I J w,G,Result.andThen_ok,Oper.upon]
 exact⟨b,rfl,H⟩

theorem Gs.src [cA P] {K:Type} {r:eH K} {w:World} {S:Nat->Prop} {v:Value} {xs:List K} {T E:TypeId} {X Y:Nat} {z:Value} (h:Gs r w S v xs) (I:cA.tab P T=some ⟨.slice E,X,Y,z⟩) (W:∀{w S l x},r.R w S l x->l.all one=true):
  ∃cs,Src P r.sz T v xs.length cs w∧cs.all one=true∧cs.length=xs.length*r.sz∧∀i x,xs[i]? = some x->∃l,r.R w S l x∧∀j u,l[j]? = some u->cs[i*r.sz+j]? = some u:=by
 obtain⟨a,cap,rfl,O,h⟩:=h
 rcases h with rfl|⟨b,q,rfl,_,h⟩
 ·cases a with
  |none=>
   refine⟨[],?_,rfl,by simp,fun i x m=>by simp at m⟩
   exact Src.ofNil w (cA.ok I).und cap
  |some a=>
   refine⟨[],?_,rfl,by simp,fun i x m=>by simp at m⟩
   exact Src.ofSlice w (cA.ok I).und a 0 cap [] (by simp) (fun j u f=>by simp at f) (fun u f=>by simp at f)
 ·
  have J:∀(ys:List K) (k:Nat),(∀i x,ys[i]? = some x->∃l,(∀j e,l[j]? = some e->w.cell? ⟨b,q+((k+i)*r.sz+j),none⟩=some e)∧r.R w S l x)->
    ∃cs:List Value,cs.all one=true∧cs.length=ys.length*r.sz∧(∀j u,cs[j]? = some u->w.cell? ⟨b,q+(k*r.sz+j),none⟩=some u)∧∀i x,ys[i]? = some x->∃l,r.R w S l x∧∀j u,l[j]? = some u->cs[i*r.sz+j]? = some u:=by
   intro ys
   induction ys with
   |nil=>intro k _;exact⟨[],rfl,by simp,fun j u f=>by simp at f,fun i x m=>by simp at m⟩
   | cons y ys ih =>
    intro k N
    obtain⟨l,t,o⟩:=N 0 y rfl
    obtain⟨cs,B,C,G,H⟩:=ih (k+1) (fun i x m=>by
     obtain⟨s,A,p⟩:=N (i+1) x (by simpa using m)
     refine⟨s,fun j u f=> ?_,p⟩
     have:=A j u f
     rwa[show k+(i+1)=k+1+i from by omega]at this)
    have F:=r.len o
    refine⟨l++cs,by rw[List.all_append,W o,B];rfl,by rw[List.length_append,C,F,List.length_cons,Nat.add_mul];omega,?_,?_⟩
    ·intro j u f
     by_cases V:j<l.length
     ·rw[List.getElem?_append_left V]at f
      have:=t j u f
      rwa[Nat.add_zero]at this
     ·rw[List.getElem?_append_right (by omega)]at f
      have:=G _ u f
      rw[Nat.add_mul,F]at this
      rwa[show q+(k*r.sz+1*r.sz+(j - r.sz))=q+(k*r.sz+j)from by omega]at this
    ·intro i x m
     cases i with
     |zero=>
      simp at m;subst m
      refine⟨l,o,fun j u f=> ?_⟩
      rw[List.getElem?_append_left (by have:=bA f;omega)]
      simpa using f
     |succ i=>
      obtain⟨s,p,U⟩:=H i x (by simpa using m)
      refine⟨s,p,fun j u f=> ?_⟩
      rw[List.getElem?_append_right (by rw[F,Nat.add_mul];omega),F]
      rw[show(i+1)*r.sz+j - r.sz=i*r.sz+j from by rw[Nat.add_mul];omega]
      exact U j u f
  obtain⟨cs,B,C,G,H⟩:=J xs 0 (fun i x m=>by
   obtain⟨l,t,o⟩:=h i x m
   exact⟨l,fun j u f=>by rw[Nat.zero_add];exact t j u f,o⟩)
  refine⟨cs,?_,B,C,H⟩
  refine Src.ofSlice w (cA.ok I).und _ _ _ _ C (fun j u f=> ?_) (fun u f=>lC (List.all_eq_true.1 B u f))
  rw[dK]
  have:=G j u f
  rwa[Nat.zero_mul,Nat.zero_add]at this
def c_.Fits (e:c_ α) (r:eH α):Prop:=r.sz=e.sz∧(∀{w S es x},r.R w S es x->es=e.enc x)∧(∀{w S x},r.R w S (e.enc x) x)∧∀x,(e.enc x).all one=true
theorem DL (k:IntKind):(c_.int k).Fits (eH.int k):=⟨rfl,fun h=>h,rfl,fun _=>rfl⟩
theorem LM {cs:List Value} {xs:List α} (s:cs.length=xs.length*e.sz) (h:∀i x,xs[i]? = some x->∀j u,(e.enc x)[j]? = some u->cs[i*e.sz+j]? = some u):cs=cellsOf e xs:=by
 apply List.ext_getElem?
 intro k
 by_cases r:k<xs.length*e.sz
 ·have a:=e.pos
  have q:k / e.sz<xs.length:=Nat.div_lt_of_lt_mul (by rw[Nat.mul_comm];exact r)
  have t:k%e.sz<e.sz:=Nat.mod_lt _ a
  have o:xs[k / e.sz]? = some (xs[k / e.sz]):=List.getElem?_eq_getElem q
  have l:=e.len xs[k / e.sz]
  have m:(e.enc xs[k / e.sz])[k%e.sz]? = some ((e.enc xs[k / e.sz])[k%e.sz]'(by omega)):=List.getElem?_eq_getElem _
  have p:k / e.sz*e.sz+k%e.sz=k:=by rw[Nat.mul_comm];exact Nat.div_add_mod k e.sz
  have b:=h _ _ o _ _ m
  have f:=tU e xs _ _ o _ _ m
  rw[p]at b f
  rw[b,f]
 ·rw[List.getElem?_eq_none (by omega),List.getElem?_eq_none (by rw[dG];omega)]
theorem G_ [cA P] {r:eH α} (b:e.Fits r) {w:World} {S:Nat->Prop} {v:Value} {xs:List α} {T E:TypeId} {B C:Nat} {z:Value} (h:Gs r w S v xs) (o:cA.tab P T=some ⟨.slice E,B,C,z⟩):
  Src P e.sz T v xs.length (cellsOf e xs) w∧(cellsOf e xs).all one=true:=by
 obtain⟨a,k,_,m⟩:=b
 obtain⟨cs,t,s,q,hc⟩:=Gs.src h o (fun {w S l x} hr=>by rw[k hr];exact m x)
 have:cs=cellsOf e xs:=LM (by rw[q,a]) (fun i x A j u y=>by
  obtain⟨l,f,p⟩:=hc i x A
  rw[<-a]
  exact p j u (by rw[k f];exact y))
 subst this
 rw[<-a]
 exact⟨t,s⟩
theorem Bv.sl {r:eH α} (a:e.Fits r) {w:World} {F:Nat->Prop} {v:Value} {xs:List α} (h:Bv e w F v xs):Gs r w F v xs:=by
 obtain⟨f,_,o,_⟩:=a
 have m:=h
 obtain⟨A,_,q⟩:=h
 rcases q with⟨rfl,rfl⟩|⟨b,k,cap,T,l,rfl,p,y,z,hc,B⟩
 ·exact⟨none,0,rfl,by simp,.inl rfl⟩
 ·refine⟨_,cap,rfl,by omega,.inr ⟨b,k,rfl,p,fun i x t=>⟨e.enc x,fun j u s=> ?_,o⟩⟩⟩
  have:=Bv.cell m t s
  simp only[Ix,dK]at this
  rw[f]
  exact this

def gU {α:Type} (e:c_ α) (vs:List Value) (xss:List (List α)):aX where
 p w F:=vs.length=xss.length∧∃G:Nat->Nat->Prop,(∀i v xs,vs[i]? = some v->xss[i]? = some xs->Bv e w (G i) v xs)∧(∀i k,G i k->F k)∧∀i j k,G i k->G j k->i=j
 mono:=by
  rintro w w' S u ⟨r,G,l,f,m⟩ h
  refine⟨r,fun i k=>G i k∧k<w.heap.size,fun i v xs s t=>(Ar e v xs).mono (l i v xs s t) (fun k a b=>⟨⟨a,b⟩,(h k (f i k a) b).2⟩),fun i k a=>(h k (f i k a.1) a.2).1,fun i j k o q=>m i j k o.1 q.1⟩
theorem St.merge {w:World} (t:St c M L w) (i j:Nat) {J K G:aX} (E:i≠j) (H:M[i]? = some J) (I:M[j]? = some K)
  (v:∀{w F1 F2},J.p w F1->K.p w F2->(∀k,F1 k->¬F2 k)->G.p w (fun k=>F1 k∨F2 k)):St c ((M.set i G).eraseIdx j) L w:=by
 obtain⟨X,F,o,U⟩:=t
 have V:=bA H
 have W:=bA I
 have T:=v (o.res i _ H) (o.res j _ I) (fun k R S=>E (o.dis _ _ k R S))
 let l:Nat->Nat:=fun q=>if q<j then q else q+1
 refine⟨X,fun q b=>q+1<M.length∧(F (l q) b∨(l q=i∧F j b)),⟨?_,?_,?_⟩,fun f C=> ?_⟩
 ·intro q m v
  have Y:=bA v
  rw[List.length_eraseIdx_of_lt (by simpa using W),List.length_set]at Y
  have x:q+1<M.length:=by omega
  have u:(M.set i G)[l q]? = some m:=by
   rw[List.getElem?_eraseIdx]at v
   simp only[l]
   split
   ·rename_i B;rwa[if_pos B]at v
   ·rename_i B;rwa[if_neg B]at v
  by_cases A:l q=i
  ·rw[A,List.getElem?_set_self V]at u
   cases u
   refine aX.same T (fun b a=>⟨x,?_⟩) (fun _ _ _=>rfl)
   rcases a with a|a
   ·exact .inl (by rw[A];exact a)
   ·exact .inr ⟨A,a⟩
  ·rw[List.getElem?_set_ne (Ne.symm A)]at u
   exact aX.same (o.res (l q) m u) (fun b a=>⟨x,.inl a⟩) (fun _ _ _=>rfl)
 ·rintro q b ⟨_,a|⟨_,a⟩⟩
  ·exact o.rng _ b a
  ·exact o.rng _ b a
 ·have z:∀q,l q≠j:=by intro q;simp only[l];split<;>omega
  have y:∀q r,l q=l r->q=r:=by intro q r;simp only[l];split<;>split<;>omega
  rintro q r b ⟨_,a|⟨N,a⟩⟩ ⟨_,s|⟨O,s⟩⟩
  ·exact y _ _ (o.dis _ _ b a s)
  ·exact absurd (o.dis _ _ b a s) (z q)
  ·exact absurd (o.dis _ _ b s a) (z r)
  ·exact y _ _ (N.trans O.symm)
 ·exact aX.same (U f C) (fun b a=>⟨a.1,by
   rintro q ⟨_,h|⟨_,h⟩⟩
   ·exact a.2 _ h
   ·exact a.2 _ h⟩) (fun _ _ _=>rfl)
theorem RN (i j:Nat) {u:Value} {k:Int} {vs:List Value} {xss:List (List α)} {ys:List α} {G:Act->World->Prop} (A:Nat.beq i j=false) (R:M[i]? = some (gU e vs xss)) (S:M[j]? = some (Ar e u ys)) (U:0<=k) (V:k<vs.length)
  (h:J c n σ ((M.set i (gU e (vs.set k.toNat u) (xss.set k.toNat ys))).eraseIdx j) L G):J c n σ M L G:=fun a w s t=>
 h a w s (t.merge i j (fun e=>by subst e;simp at A) R S (by
  rintro w T I ⟨p,G,K,z,N⟩ O F
  have B:k.toNat<vs.length:=by omega
  refine⟨by simp[p],fun r b=>(r=k.toNat∧I b)∨(r≠k.toNat∧G r b),?_,?_,?_⟩
  ·intro r H q l m
   by_cases y:r=k.toNat
   ·subst y
    rw[List.getElem?_set_self B]at l
    rw[List.getElem?_set_self (by omega)]at m
    cases l;cases m
    exact aX.same (f:=Ar e u ys) O (fun b o=> .inl ⟨rfl,o⟩) (fun _ _ _=>rfl)
   ·rw[List.getElem?_set_ne (Ne.symm y)]at l m
    exact aX.same (f:=Ar e H q) (K r H q l m) (fun b o=> .inr ⟨y,o⟩) (fun _ _ _=>rfl)
  ·rintro r b (⟨_,o⟩|⟨_,o⟩)
   ·exact .inr o
   ·exact .inl (z r b o)
  ·rintro W X b (⟨C,v⟩|⟨C,v⟩) (⟨E,x⟩|⟨E,x⟩)
   ·rw[C,E]
   ·exact absurd v (F b (z _ b x))
   ·exact absurd x (F b (z _ b v))
   ·exact N _ _ b v x))
theorem WI {r:eH α} (a:e.Fits r) {v:Value} {vs:List Value} {xss:List (List α)} {w:World} {s t:Nat->Prop} (y:(Ar c_.raw v vs).p w s) (H:(gU e vs xss).p w t):Gs (eH.sl r) w (fun k=>s k∨t k) v (vs.zip xss):=by
 obtain⟨f,G,E,F,_⟩:=H
 have B:(vs.zip xss).length=vs.length:=by simp[f]
 have i:=y
 obtain⟨O,_,I⟩:=y
 rcases I with⟨rfl,rfl⟩|⟨b,o,cap,T,C,rfl,l,N,z,hc,R⟩
 ·exact⟨none,0,rfl,by simp,.inl rfl⟩
 ·refine⟨_,cap,by rw[B],by rw[B];omega,.inr ⟨b,o,rfl,.inl l,fun q x h=> ?_⟩⟩
  have A:vs[q]? = some x.1:=by rw[List.getElem?_zip_eq_some]at h;exact h.1
  have m:xss[q]? = some x.2:=by rw[List.getElem?_zip_eq_some]at h;exact h.2
  refine⟨[x.1],fun K u J=> ?_,rfl,?_⟩
  ·have:=Bv.cell i A (j:=K) (u:=u) J
   simp only[Ix,dK]at this
   exact this
  ·exact(Sl r x.1 x.2).mono (Bv.sl a (E q _ _ A m)) (fun k z _=>⟨.inr (F _ k z),rfl⟩)
def XA (p:Prop):aX:=⟨fun _ _=>p,fun h _=>h⟩
theorem Xx {p:Prop} {G:Act->World->Prop} (b:XA p∈L) (h:p->J c n σ M L G):J c n σ M L G:=fun a w s t=>h (by obtain⟨_,f⟩:=t.fact b;exact f) a w s t

end
end
section
theorem mixedOrders:Go.Proofs.Tryz.prog.follows .mixedOrders=true:=by kernel_rfl
section
variable {P:Program} {rd:Option Nat} {c:tP} {n:Sz} {σ:Fr} {M L:List aX} {Q:Exit->Act->World->Prop} {ops:Array Oper} {rest:List Oper}
theorem vQ {d:Option Tmp} {ty:TypeId} {pos:String} {aft:Array Edge} {g:Option (Nat×Bool)} {T:TypeId} {ps:List (Nat×Operand)} {vs:List (Nat×Value)} {r:Value} (b:ps.map (fun p=>(p.1,ev σ p.2))=vs.map (fun p=>(p.1,some p.2)))
  (f:∀w,(Instr.build T vs.toArray).run P w = .ok r w):Y P c n σ M L ⟨d,.build T ps.toArray,ty,pos,aft,g⟩ r:=fun a w s _=>by
 have e:ps.map (fun p=>(p.1,a.eval p.2))=vs:=by
  clear f
  induction ps generalizing vs with
  |nil=>cases vs<;>simp_all
  | cons p ps ih =>
   cases vs with
   |nil=>simp at b
   |cons q vs=>
    simp only[List.map_cons,List.cons.injEq,Prod.mk.injEq]at b
    simp only[List.map_cons,s.eval b.1.2,b.1.1,ih b.2]
 simp only[execOp,List.map_toArray,e]
 simp[f w]
theorem yD {d:Option Tmp} {ty:TypeId} {pos:String} {aft:Array Edge} {g:Option (Nat×Bool)} {T:TypeId} {r:Value} (a:∀w,(Instr.build T ([]:List (Nat×Value)).toArray).run P w = .ok r w):Y P c n σ M L ⟨d,.build T #[],ty,pos,aft,g⟩ r:=
 vQ (ps:=[]) (vs:=[]) (by simp) a
theorem Sf {d:Option Tmp} {ty:TypeId} {pos:String} {aft:Array Edge} {g:Option (Nat×Bool)} {T:TypeId} {a:Nat} {e:Operand} {b:Value} {r:Value} (f:ev σ e=some b) (h:∀w,(Instr.build T ([(a,b)]:List (Nat×Value)).toArray).run P w = .ok r w):Y P c n σ M L ⟨d,.build T #[(a,e)],ty,pos,aft,g⟩ r:=
 vQ (ps:=[(a,e)]) (vs:=[(a,b)]) (by simp[f]) h
theorem qT {d:Option Tmp} {ty:TypeId} {pos:String} {aft:Array Edge} {g:Option (Nat×Bool)} {T:TypeId} {a b:Nat} {h i:Operand} {e f:Value} {r:Value} (j:ev σ h=some e) (k:ev σ i=some f) (l:∀w,(Instr.build T ([(a,e),(b,f)]:List (Nat×Value)).toArray).run P w = .ok r w):Y P c n σ M L ⟨d,.build T #[(a,h),(b,i)],ty,pos,aft,g⟩ r:=
 vQ (ps:=[(a,h),(b,i)]) (vs:=[(a,e),(b,f)]) (by simp[j,k]) l
theorem JV {d:Option Tmp} {ty:TypeId} {pos:String} {aft:Array Edge} {g:Option (Nat×Bool)} {T:TypeId} {a b e:Nat} {j k l:Operand} {f h i:Value} {r:Value} (m:ev σ j=some f) (o:ev σ k=some h) (p:ev σ l=some i) (q:∀w,(Instr.build T ([(a,f),(b,h),(e,i)]:List (Nat×Value)).toArray).run P w = .ok r w):Y P c n σ M L ⟨d,.build T #[(a,j),(b,k),(e,l)],ty,pos,aft,g⟩ r:=
 vQ (ps:=[(a,j),(b,k),(e,l)]) (vs:=[(a,f),(b,h),(e,i)]) (by simp[m,o,p]) q
theorem XC {d:Option Tmp} {ty:TypeId} {pos:String} {aft:Array Edge} {g:Option (Nat×Bool)} {T:TypeId} {a b e f:Nat} {l m o p:Operand} {h i j k:Value} {r:Value} (q:ev σ l=some h) (s:ev σ m=some i) (t:ev σ o=some j) (u:ev σ p=some k) (v:∀w,(Instr.build T ([(a,h),(b,i),(e,j),(f,k)]:List (Nat×Value)).toArray).run P w = .ok r w):Y P c n σ M L ⟨d,.build T #[(a,l),(b,m),(e,o),(f,p)],ty,pos,aft,g⟩ r:=
 vQ (ps:=[(a,l),(b,m),(e,o),(f,p)]) (vs:=[(a,h),(b,i),(e,j),(f,k)]) (by simp[q,s,t,u]) v
theorem cC (cs:Array Value):(Value.agg cs).cells=cs:=rfl
end
section
variable {P:Program} {rd:Option Nat} {c:tP} {n:Sz} {σ:Fr} {M L:List aX} {Q:Exit->Act->World->Prop} {l:List Oper} {m:List Nat} {k0:Nat} {H Bs:List (Nat×List aX×List aX)} {rest:List Nat}
theorem JR.open {r:List Nat} (e:List.range l.length=r) (h:JR c n σ M L H Bs (RW P l.toArray Q (before m) (cV l) k0 r)):JR c n σ M L H Bs (RW P l.toArray Q (before m) (cV l) k0 (List.range l.length)):=by rw[e];exact h
end
end
section
theorem ND {ops:Array Oper} {x y:Oper} (h:x.apart ops y=true):y.apart ops x=true:=by
 obtain⟨f,g,i⟩:=Oper.apart_spec h
 unfold Oper.apart
 rw[Bool.and_eq_true]
 constructor
 ·cases c:y.dst with
  |none=>rfl
  |some d=>
   have a:=i d c
   have b:x.dst≠some d:=fun e=>g d e (by rw[c])
   simp[a,b]
 ·cases j:x.dst with
  |none=>rfl
  |some d=>simp[f d j]
def Yr (l:List Oper) (m:List Nat) (a:Nat):Bool:=
  (List.range l.length).all fun i=>match l[i]? with
    |none=>false
    | some o =>
      (rV o).all (fun e=>Nat.blt e i&&before m i e) &&
      (List.range l.length).all (fun k=> !before m i k||(Nat.blt k i&&(rV o).any (fun e=>Nat.beq e k||before m e k))) &&
      !An o.op &&
      (if Nat.ble a i then(List.range i).all (fun x=>before m i x)
       else(List.range i).all (fun x=>before m i x||(match l[x]? with|none=>false|some b=>b.apart l.toArray o)))
structure UY (l:List Oper) (m:List Nat) (k0:Nat):Prop where
 edge:∀(i:Nat) (o:Oper),l[i]? = some o->∀e∈rV o,e<i∧before m i e=true
 trans:∀(i:Nat) (o:Oper),l[i]? = some o->∀k,before m i k=true->k<l.length->k<i∧∃e∈rV o,e=k∨before m e k=true
 sel:∀(i:Nat) (o:Oper),l[i]? = some o->∀cs b,o.op ≠ .select cs b
 tail:∀i x,i<l.length->k0<=i->x<i->before m i x=true
 ind:∀(i x:Nat) (oi ox:Oper),l[i]? = some oi->l[x]? = some ox->i<k0->x<i->before m i x=false->ox.apart l.toArray oi=true
theorem QA {l:List Oper} {m:List Nat} {q:Nat} (h:Yr l m q=true):UY l m q:=by
  have a:∀(i:Nat) (o:Oper),l[i]? = some o->
      ((rV o).all (fun e=>Nat.blt e i&&before m i e)=true)∧
      ((List.range l.length).all (fun k=> !before m i k||(Nat.blt k i&&(rV o).any (fun e=>Nat.beq e k||before m e k)))=true)∧An o.op=false∧
      ((if Nat.ble q i then(List.range i).all (fun x=>before m i x)
       else(List.range i).all (fun x=>before m i x||(match l[x]? with|none=>false|some r=>r.apart l.toArray o)))=true):=by
    intro i o c
    have:=List.all_eq_true.1 h i (List.mem_range.2 (bA c))
    simp only[c,Bool.and_eq_true,Bool.not_eq_true']at this
    exact⟨this.1.1.1,this.1.1.2,this.1.2,this.2⟩
  refine⟨?_,?_,?_,?_,?_⟩
  · intro i o c e j
    have:=List.all_eq_true.1 (a i o c).1 e j
    simp only[Bool.and_eq_true,Nat.blt_eq]at this
    exact this
  · intro i o c k g d
    have:=List.all_eq_true.1 (a i o c).2.1 k (List.mem_range.2 d)
    simp only[g,Bool.not_true,Bool.false_or,Bool.and_eq_true,Nat.blt_eq,List.any_eq_true,Bool.or_eq_true]at this
    obtain⟨s,e,j,f⟩:=this
    refine⟨s,e,j,?_⟩
    rcases f with f|f
    · exact .inl (Nat.eq_of_beq_eq_true f)
    · exact .inr f
  · intro i o c cs b e
    have:=(a i o c).2.2.1
    rw[e]at this
    cases this
  · intro i x n g p
    obtain⟨o,c⟩:∃o,l[i]? = some o:=⟨_,List.getElem?_eq_getElem n⟩
    have:=(a i o c).2.2.2
    rw[if_pos (by simpa using g)]at this
    exact List.all_eq_true.1 this x (List.mem_range.2 p)
  · intro i x u r n p g d t
    have:=(a i u n).2.2.2
    rw[if_neg (by simpa using g)]at this
    have:=List.all_eq_true.1 this x (List.mem_range.2 d)
    simp only[t,Bool.false_or,p]at this
    exact this
def UR (l:List Oper):Array Bool->List Nat->Prop
 |listed,[]=>∀i,i<l.length->listed.getD i true=true
 |listed,i::s=>i∈Region.ready .any l.toArray listed∧UR l (listed.setIfInBounds i true) s
def left (l:List Oper) (listed:Array Bool):List Nat:=(List.range l.length).filter fun i=> !listed.getD i true
theorem mem_left {l:List Oper} {listed:Array Bool} {i:Nat}:i∈left l listed↔i<l.length∧listed.getD i true=false:=by
 unfold left
 rw[List.mem_filter,List.mem_range]
 constructor
 ·rintro⟨h1,h2⟩
  exact⟨h1,by simpa using h2⟩
 ·rintro⟨h1,h2⟩
  exact⟨h1,by rw[h2];rfl⟩
theorem TM {l:List Oper} {listed:Array Bool} (hsz:listed.size=l.length) {i:Nat} (hi:i∈left l listed):(left l (listed.setIfInBounds i true)).length<(left l listed).length:=by
 have hlt:=(mem_left.1 hi).1
 have:left l (listed.setIfInBounds i true)=(left l listed).filter (fun j=> !(j==i)):=by
  unfold left
  rw[List.filter_filter]
  apply List.filter_congr
  intro j hj
  by_cases e:i=j
  ·subst e;simp[hsz,hlt]
  ·rw[getD_set_ne true e]
   have:(j==i)=false:=by simpa using fun h=>e h.symm
   simp[this]
 rw[this]
 apply List.length_filter_lt_length_iff_exists.2
 exact⟨i,hi,by simp⟩
theorem YO {l:List Oper} {m:List Nat} {k0:Nat} (hc:UY l m k0):∀(fuel t:Nat) (listed:Array Bool),(left l listed).length<=fuel->listed.size=l.length->UR l listed (Region.linearise.go .any l.toArray fuel t listed []):=by
 intro fuel
 induction fuel with
 | zero =>
  intro t listed hlen hsz
  simp only[Region.linearise.go,List.reverse_nil,UR]
  intro i hi
  cases h:listed.getD i true with
  |true=>rfl
  |false=>
   have:=mem_left.2 ⟨hi,h⟩
   have hnil:left l listed=[]:=List.eq_nil_of_length_eq_zero (by omega)
   rw[hnil]at this;simp at this
 | succ fuel ih =>
  intro t listed hlen hsz
  simp only[Region.linearise.go]
  change UR l listed (match (Region.ready .any l.toArray listed)[t%(Region.ready .any l.toArray listed).length]? with
   |some i=>Region.linearise.go .any l.toArray fuel (t / (Region.ready .any l.toArray listed).length) (listed.setIfInBounds i true) [i]
   |none=>[].reverse)
  cases hi:(Region.ready .any l.toArray listed)[t%(Region.ready .any l.toArray listed).length]? with
  | none =>
   have hnil:Region.ready .any l.toArray listed=[]:=by
    cases hr:Region.ready .any l.toArray listed with
    |nil=>rfl
    |cons x xs=>
     rw[hr]at hi
     have hlt:t%(x::xs).length<(x::xs).length:=Nat.mod_lt _ (by simp)
     simp at hi
     simp at hlt
     omega
   simp only[List.reverse_nil,UR]
   intro i
   induction i using Nat.strongRecOn with
   | _ i ihi =>
    intro hlt
    cases h:listed.getD i true with
    |true=>rfl
    | false =>
     exfalso
     obtain⟨o,ho⟩:∃o,l[i]? = some o:=⟨_,List.getElem?_eq_getElem hlt⟩
     have:i∈Region.ready .any l.toArray listed:=by
      refine mem_ready.2 ⟨h,o,by simpa using ho,fun e he hb=> ?_⟩
      have hee:e.on∈rV o:=List.mem_map.2 ⟨e,List.mem_filter.2 ⟨by simpa using he,hb⟩,rfl⟩
      have hei:=(hc.edge i o ho e.on hee).1
      have h1:=ihi e.on hei (by omega)
      have:e.on<listed.size:=by omega
      simp[this]at h1 ⊢
      exact h1
     rw[hnil]at this;simp at this
  |some i=>
   simp only[]
   rw[linearise_go_acc,List.reverse_singleton,List.singleton_append]
   have hir:=List.mem_of_getElem? hi
   refine⟨hir,ih _ _ ?_ (by simp[hsz])⟩
   obtain⟨h0,o,ho,_⟩:=mem_ready.1 hir
   have hil:i∈left l listed:=mem_left.2 ⟨by have:=(Array.getElem?_eq_some_iff.1 ho).1;simpa using this,h0⟩
   have:=TM hsz hil
   omega
section
variable {P:Program} {Q:Exit->Act->World->Prop} {l:List Oper} {m:List Nat} {k0:Nat}
theorem RZ (hc:UY l m k0):∀(s:List Nat) (L:List Nat) (listed:Array Bool) (a:Act) (w:World) (H:List (Nat×World)) (Bs:List (Nat×(World->Prop))),
  UR l listed s->listed.size=l.length->L.Nodup->L.Pairwise (fun x i=>before m x i=false)->(∀i,i∈L↔i<l.length∧listed.getD i true=false)->
  (∀j k,listed.getD j false=true->before m j k=true->k<l.length->listed.getD k false=true)->L.filter (cV l)=s.filter (cV l)->
  RW P l.toArray Q (before m) (cV l) k0 L a w H Bs->Iu P l.toArray Q s a w:=by
 intro s
 induction s with
 | nil =>
  intro L listed a w H Bs hlin hsz hnd hpw hmem hcl hf h
  have hL:L=[]:=by
   cases L with
   |nil=>rfl
   |cons i L=>
    have:=(hmem i).1 List.mem_cons_self
    rw[hlin i this.1]at this
    cases this.2
  subst hL
  exact h
 | cons i s ih =>
  intro L listed a w H Bs hlin hsz hnd hpw hmem hcl hf h
  obtain⟨hi,hlin'⟩:=hlin
  obtain⟨h0,o,ho',hedge⟩:=mem_ready.1 hi
  have ho:l[i]? = some o:=by simpa using ho'
  have hlt:i<l.length:=bA ho
  have hiL:i∈L:=(hmem i).2 ⟨hlt,h0⟩
  obtain⟨L1,L2,rfl⟩:=List.append_of_mem hiL
  have hnd':=List.nodup_append.1 hnd
  have hi1:i∉L1:=fun hx=>(hnd'.2.2 i hx i List.mem_cons_self) rfl
  have hi2:i∉L2:=(List.nodup_cons.1 hnd'.2.1).1
  have hpw':=List.pairwise_append.1 hpw
  have hL1:∀x∈L1,before m x i=false:=fun x hx=>hpw'.2.2 x hx i List.mem_cons_self
  have hanc:∀k,before m i k=true->k<l.length->listed.getD k false=true:=by
   intro k hk hkl
   obtain⟨_,e,he,hek⟩:=hc.trans i o ho k hk hkl
   obtain⟨ed,hed,rfl⟩:=List.mem_map.1 he
   obtain⟨hed1,hed2⟩:=List.mem_filter.1 hed
   have hl:=hedge ed (by simpa using hed1) hed2
   rcases hek with rfl|hek
   ·exact hl
   ·exact hcl _ _ hl hek hkl
  have hno:∀x∈L1,before m i x=false:=by
   intro x hx
   cases hb:before m i x with
   |false=>rfl
   |true=>
    have hxl:=((hmem x).1 (by simp[hx]))
    have:=hanc x hb hxl.1
    have hxs:x<listed.size:=by omega
    simp[hxs]at this hxl
    rw[this]at hxl
    simp at hxl
  have hloud:cV l i=true->∀x∈L1,cV l x=false:=by
   intro hli x hx
   rw[List.filter_append,List.filter_cons_of_pos hli,List.filter_cons_of_pos hli]at hf
   cases hlx:cV l x with
   |false=>rfl
   | true =>
    exfalso
    have hm:x∈L1.filter (cV l):=List.mem_filter.2 ⟨hx,hlx⟩
    cases hL:L1.filter (cV l)with
    |nil=>rw[hL]at hm;simp at hm
    |cons y ys=>
     rw[hL,List.cons_append]at hf
     have:y=i:=(List.cons.inj hf).1
     have hy:y∈L1.filter (cV l):=by rw[hL];exact List.mem_cons_self
     rw[this]at hy
     exact hi1 (List.mem_filter.1 hy).1
  have hf':(L1++L2).filter (cV l)=s.filter (cV l):=by
   rw[List.filter_append]at hf ⊢
   cases hli:cV l i with
   |false=>rw[List.filter_cons_of_neg (by rw[hli];simp),List.filter_cons_of_neg (by rw[hli];simp)]at hf;exact hf
   |true=>
    have hn:L1.filter (cV l)=[]:=List.filter_eq_nil_iff.2 (fun x hx=>by rw[hloud hli x hx];simp)
    rw[List.filter_cons_of_pos hli,List.filter_cons_of_pos hli,hn]at hf
    rw[hn]
    exact(List.cons.inj hf).2
  have next:∀a' w' H' Bs',RW P l.toArray Q (before m) (cV l) k0 (L1++L2) a' w' H' Bs'->Iu P l.toArray Q s a' w':=by
   intro a' w' H' Bs' hr
   refine ih (L1++L2) _ a' w' H' Bs' hlin' (by simp[hsz]) ?_ ?_ ?_ ?_ hf' hr
   ·exact List.nodup_append.2 ⟨hnd'.1,(List.nodup_cons.1 hnd'.2.1).2,fun x hx y hy=>hnd'.2.2 x hx y (List.mem_cons_of_mem _ hy)⟩
   ·exact List.pairwise_append.2 ⟨hpw'.1,(List.pairwise_cons.1 hpw'.2.1).2,fun x hx y hy=>hpw'.2.2 x hx y (List.mem_cons_of_mem _ hy)⟩
   ·intro j
    by_cases e:i=j
    ·subst e
     constructor
     ·intro hj
      rcases List.mem_append.1 hj with hj|hj
      ·exact absurd hj hi1
      ·exact absurd hj hi2
     ·rintro⟨_,hj⟩
      simp[hsz,hlt]at hj
    ·rw[getD_set_ne true e]
     have:=hmem j
     simp only[List.mem_append,List.mem_cons]at this ⊢
     constructor
     ·intro hj;exact this.1 (by rcases hj with hj|hj;exact .inl hj;exact .inr (.inr hj))
     ·intro hj
      rcases this.2 hj with hj|rfl|hj
      ·exact .inl hj
      ·exact absurd rfl e
      ·exact .inr hj
   ·intro j k hj hjk hk
    by_cases e:i=j
    ·subst e;exact getD_set_true (hanc k hjk hk)
    ·rw[getD_set_ne false e]at hj
     exact getD_set_true (hcl j k hj hjk hk)
  have hoa:l.toArray[i]? = some o:=ho'
  rw[OA]
  have hxlen:∀x∈L1,x<l.length:=fun x hx=>((hmem x).1 (by simp[hx])).1
  by_cases hk:k0<=i
  ·have hL1e:L1=[]:=by
    cases L1 with
    |nil=>rfl
    |cons x L1=>
     exfalso
     have h1:=hno x List.mem_cons_self
     have h2:=hL1 x List.mem_cons_self
     have hx:=hxlen x List.mem_cons_self
     rcases Nat.lt_trichotomy x i with h'|h'|h'
     ·rw[hc.tail i x hlt hk h']at h1;cases h1
     ·exact hi1 (by rw[<-h'];exact List.mem_cons_self)
     ·rw[hc.tail x i hx (by omega) h']at h2;cases h2
   subst hL1e
   simp only[List.nil_append,RW,hoa]at h
   unfold wpOp
   simp only[hoa]
   split
   ·rename_i hw
    rw[if_pos hw]at h
    rcases h with⟨_,h|h⟩|⟨h,_⟩|⟨h,_⟩
    ·exact .inl (Oper.wp_mono (fun a' w' hr=>next a' w' _ _ hr) h)
    ·exact .inr (Oper.rnd_mono (fun a' w' hr=>next a' w' _ _ hr) h)
    ·omega
    ·omega
   ·rename_i hw
    rw[if_neg hw]at h
    exact next _ _ _ _ h
  ·have hik:i<k0:=by omega
   have hind:∀x∈L1,GT l.toArray (before m) (cV l) x i∧x<k0:=by
    intro x hx
    have hxl:=hxlen x hx
    obtain⟨ox,hox⟩:∃ox,l[x]? = some ox:=⟨_,List.getElem?_eq_getElem hxl⟩
    have hxk:x<k0:=by
     rcases Nat.lt_or_ge x k0 with h'|h'
     ·exact h'
     ·have:=hL1 x hx
      rw[hc.tail x i hxl h' (by omega)]at this;cases this
    have hap:ox.apart l.toArray o=true:=by
     rcases Nat.lt_trichotomy x i with h'|h'|h'
     ·exact hc.ind i x o ox ho hox hik h' (hno x hx)
     ·exact absurd (by rw[<-h'];exact hx) hi1
     ·exact ND (hc.ind x i ox o hox ho hxk h' (hL1 x hx))
    refine⟨⟨hno x hx,hL1 x hx,?_,?_⟩,hxk⟩
    ·intro ox' oi' h1 h2
     have e1:ox=ox':=by simpa [hox]using h1
     have e2:o=oi':=by simpa [ho]using h2
     rw[<-e1,<-e2];exact hap
    ·cases hli:cV l i with
     |false=>exact .inr rfl
     |true=>exact .inl (hloud hli x hx)
   have hsel:∀(i:Nat) (o:Oper),l.toArray[i]? = some o->∀cs b,o.op ≠ .select cs b:=fun i o h=>hc.sel i o (by simpa using h)
   unfold wpOp
   simp only[hoa]
   cases hl:cV l i with
   | false =>
    rcases CU hsel hoa hik hl L1 a w H Bs hind h with⟨h1,h2⟩|⟨h1,v,B,⟨hb,_,hr⟩,h2⟩
    ·rw[h1];exact next _ _ _ _ h2
    ·rw[h1]
     exact .inl (by simp only[Oper.wp,hr w hb,Oper.upon];exact next _ _ _ _ h2)
   | true =>
    rcases DO hsel hoa hik hl L1 a w H Bs hind h with⟨h1,h2⟩|⟨h1,h2⟩
    ·rw[h1];exact next _ _ _ _ h2
    ·rw[h1]
     exact .inl (HT (nF (fun a' w' hh=>next a' w' _ _ hh.2) h2))

def HK (x:Nat):List Nat->List (List Nat)
 | []=>[[x]]
 |y::ys=>(x::y::ys)::(HK x ys).map (y::·)
def Ai:List Nat->List (List Nat)
 | []=>[[]]
 |x::xs=>(Ai xs).flatMap (HK x)
theorem HP (x:Nat) (b:List Nat):∀a:List Nat,a++x::b∈HK x (a++b)
 | []=>by cases b<;>simp[HK]
 |y::a=>by
  simp only[List.cons_append,HK,List.mem_cons,List.mem_map]
  exact .inr ⟨_,HP x b a,rfl⟩
theorem CY:∀(l s:List Nat),s.Perm l->s∈Ai l
 | [],s,h=>by simp[Ai,h.eq_nil]
 | x :: l, s, h => by
  have d:x∈s:=h.symm.subset List.mem_cons_self
  obtain⟨a,b,rfl⟩:=List.append_of_mem d
  have c:(a++b).Perm l:=by
   have:(x::(a++b)).Perm (x::l):=(List.perm_middle.symm).trans h
   exact(List.perm_cons x).1 this
  simp only[Ai,List.mem_flatMap]
  exact⟨a++b,CY l _ c,HP x b a⟩
def pw (m:List Nat):List Nat->Bool
 | []=>true
 |x::L=>L.all (fun i=> !before m x i && !Nat.beq x i)&&pw m L
theorem PI (m:List Nat):∀L:List Nat,pw m L=true->L.Nodup∧L.Pairwise (fun x i=>before m x i=false)
 | [],_=>⟨List.nodup_nil,List.Pairwise.nil⟩
 |x::L,h=>by
  simp only[pw,Bool.and_eq_true]at h
  obtain⟨b,c⟩:=PI m L h.2
  have a:=List.all_eq_true.1 h.1
  refine⟨List.nodup_cons.2 ⟨fun e=> ?_,b⟩,List.pairwise_cons.2 ⟨fun i d=> ?_,c⟩⟩
  ·have:=a x e;simp at this
  ·have:=a i d;simp only[Bool.and_eq_true,Bool.not_eq_true']at this;exact this.1
def SZ (l:List Oper) (m:List Nat) (LL:List (List Nat)):Bool:=
 (LL.all fun L=>pw m L&&L.all (fun i=>Nat.blt i l.length)&&(List.range l.length).all (fun i=>L.contains i)) &&
 ((Ai ((List.range l.length).filter (cV l))).all fun s=> !pw m s||LL.any fun L=>L.filter (cV l)==s)
theorem IL {hc:UY l m k0}:∀(s:List Nat) (a:Array Bool),a.size=l.length->UR l a s->
  (∀j k,a.getD j false=true->before m j k=true->k<l.length->a.getD k false=true)->
  s.Nodup∧(∀i,i∈s↔i<l.length∧a.getD i true=false)∧s.Pairwise (fun x i=>before m x i=false)
 | [],a,_,h,_=>⟨List.nodup_nil,fun i=>⟨fun B=>by simp at B,fun⟨z,g⟩=>by rw[h i z]at g;cases g⟩,List.Pairwise.nil⟩
 | i :: s, a, hsz, h, hcl => by
  obtain⟨M,y⟩:=h
  obtain⟨I,o,C,d⟩:=mem_ready.1 M
  have F:l[i]? = some o:=by simpa using C
  have t:=bA F
  have c:∀k,before m i k=true->k<l.length->a.getD k false=true:=by
   intro k w r
   obtain⟨_,e,L,f⟩:=hc.trans i o F k w r
   obtain⟨H,A,rfl⟩:=List.mem_map.1 L
   obtain⟨n,p⟩:=List.mem_filter.1 A
   have y:=d H (by simpa using n) p
   rcases f with rfl|f
   ·exact y
   ·exact hcl _ _ y f r
  obtain⟨z,g,J⟩:=IL (hc:=hc) s (a.setIfInBounds i true) (by simp[hsz]) y (fun j k E q w=>by
   by_cases e:i=j
   ·subst e;exact getD_set_true (c k q w)
   ·rw[getD_set_ne false e]at E
    exact getD_set_true (hcl j k E q w))
  have v:i∉s:=fun B=>by
   have:=((g i).1 B).2
   simp[hsz,t]at this
  refine⟨List.nodup_cons.2 ⟨v,z⟩,fun j=> ?_,List.pairwise_cons.2 ⟨fun x G=> ?_,J⟩⟩
  ·by_cases e:i=j
   ·subst e;simp[t,I]
   ·rw[List.mem_cons,g j,getD_set_ne true e]
    constructor
    ·rintro(h|h)
     ·exact absurd h.symm e
     ·exact h
    ·exact fun h=> .inr h
  ·cases K:before m i x with
   |false=>rfl
   |true=>
    have b:=(g x).1 G
    have D:i≠x:=fun e=>v (e▸G)
    rw[getD_set_ne true D]at b
    have:=c x K b.1
    have u:x<a.size:=by omega
    simp[u]at this b
    rw[this]at b
    simp at b
theorem FC {rd:Option Nat} {id:Nat} {a:Act} {w:World} (LL:List (List Nat)) (hd:l.all iI=true) (hm:P.follows .mixedOrders=true) (hc:Yr l m k0=true) (hv:SZ l m LL=true)
  (h:∀L∈LL,RW P l.toArray Q (before m) (cV l) k0 L a w.drew [] []):(Code.region id l.toArray true).wpr rd P Q a w:=by
 refine Gp hd fun t=> ?_
 have hcc:=QA hc
 simp only[Region.schedule,hm,Bool.true_or,if_true,Region.linearise]
 have h0:∀i,i<l.length->(Array.replicate l.toArray.size false).getD i true=false:=fun i hi=>by simp[hi]
 have hcl:∀j k,(Array.replicate l.toArray.size false).getD j false=true->before m j k=true->k<l.length->(Array.replicate l.toArray.size false).getD k false=true:=by
  intro j k hj
  simp[Array.getElem?_replicate]at hj
  split at hj<;>simp at hj
 have hlin:=YO hcc l.toArray.size t (Array.replicate l.toArray.size false) (by unfold left;exact Nat.le_trans (List.length_filter_le _ _) (by simp)) (by simp)
 generalize Region.linearise.go .any l.toArray l.toArray.size t (Array.replicate l.toArray.size false) []=s at hlin
 obtain⟨hn,hmem,hp⟩:=IL (hc:=hcc) s _ (by simp) hlin hcl
 simp only[SZ,Bool.and_eq_true]at hv
 have hperm:s.Perm (List.range l.length):=by
  refine(List.perm_ext_iff_of_nodup hn List.nodup_range).2 fun i=> ?_
  rw[hmem i,List.mem_range]
  exact⟨fun h=>h.1,fun h=>⟨h,h0 i h⟩⟩
 have hso:=CY _ _ (hperm.filter (cV l))
 have h2:=List.all_eq_true.1 hv.2 _ hso
 have hpws:pw m (s.filter (cV l))=true:=by
  have hn':(s.filter (cV l)).Nodup:=List.Pairwise.filter _ hn
  have hp':(s.filter (cV l)).Pairwise (fun x i=>before m x i=false):=List.Pairwise.filter _ hp
  generalize s.filter (cV l)=q at hn' hp'
  induction q with
  |nil=>rfl
  |cons x q ihq=>
   have a1:=List.nodup_cons.1 hn'
   have a2:=List.pairwise_cons.1 hp'
   simp only[pw,Bool.and_eq_true,List.all_eq_true,Bool.not_eq_true']
   refine⟨fun i hi=>⟨a2.1 i hi,lL (fun e=>a1.1 (e▸hi))⟩,ihq a1.2 a2.2⟩
 rw[hpws]at h2
 simp only[Bool.not_true,Bool.false_or,List.any_eq_true]at h2
 obtain⟨L,hL,he⟩:=h2
 have hLv:=List.all_eq_true.1 hv.1 L hL
 simp only[Bool.and_eq_true,List.all_eq_true,Nat.blt_eq,List.mem_range,List.contains_iff_mem]at hLv
 obtain⟨hLn,hLp⟩:=PI m L hLv.1.1
 exact RZ hcc s L _ a _ [] [] hlin (by simp) hLn hLp (fun i=>⟨fun hi=>⟨hLv.1.2 i hi,h0 i (hLv.1.2 i hi)⟩,fun hi=>hLv.2 i hi.1⟩) hcl (by simpa using he) (h L hL)
theorem Ad {i:Option Nat} {c:tP} {n:Sz} {σ:Fr} {M L:List aX} {id:Nat} (m:List Nat) (k0:Nat) (b:List (List Nat)) (e:P.follows .mixedOrders=true) (hc:Yr l m k0=true) (g:SZ l m b=true)
  (h:∀o∈b,JR c n σ M L [] [] (RW P l.toArray Q (before m) (cV l) k0 o)) (d:l.all iI=true:=by rfl):J c n σ M L ((Code.region id l.toArray true).wpr i P Q):=fun a w s t=>
 FC b d e hc g fun o f=>h o f a w.drew [] [] s (t.ext ((Below.refl _ _).drew)) trivial trivial
end
end
end Go.Sx
end
section
set_option maxRecDepth 100000
namespace Go.Sx
open Go.RowKit Go.ChangeShapes Go.WideShapes Go.ChangeAt Go.Proofs Go.Joins
theorem ac_:ownKnob Tryz.prog.godebug=none:=by kernel_rfl
theorem aar:laidOutB Tryz.prog=true:=by kernel_rfl
section
variable {H:Type} {enc:TypeId×Value->H} {P:Program}
theorem Df (i:laidOutB P=true) {W f:World} (g:JJ W f):∀(a:List TypeId) (vs:List Value) (c:List (DataW H)) (p:List MemPlace),(a.all fun t=>P.readableRec t&&decide (t<P.types.size))=true->
  DataW.TrodAll enc P W 0 (fun _=>true) true a vs c p->(∀x∈p,x.block<W.heap.size)->DataW.TrodAll enc P f 0 (fun b=>decide (b<W.heap.size)) true a vs c p
 | [],[],[],_,_,h,_=>h
 |t::a,v::vs,d::c,ps,hr,h,hlt=>by
  obtain⟨p,q,j,k,rfl⟩:=h
  simp only[List.all_cons,Bool.and_eq_true,decide_eq_true_eq]at hr
  exact⟨p,q,Below.trod i hr.1.1 hr.1.2 j g (fun x e=>hlt x (List.mem_append_left _ e)),Df i g a vs c q (by simpa using hr.2) k (fun x e=>hlt x (List.mem_append_right _ e)),rfl⟩
 | [],[],_::_,_,_,h,_=>h.elim
 | [],_::_,_,_,_,h,_=>h.elim
 |_::_,[],_,_,_,h,_=>h.elim
 |_::_,_::_,[],_,_,h,_=>h.elim
theorem Hp {f:FuncId} {args:Array Value} {L:List aX} {W:World} (h:aV Tryz.prog f args L (fun _:Unit=> .bool true) (fun _ l=>l) (fun _ l=>l)) (b:∀g∈L,g.p W (fun _=>True)):
  Calls Tryz.prog f args W fun e a=>e = .returned (.bool true)∧JJ W a:=
 (h W (fun _=>True) b).mono fun _ _ ⟨_,c,d⟩=>⟨c,d.old.ext⟩

variable {w:World} {base:Nat} {spare:Nat->Bool} {held:Bool}
theorem Qy {A:Addr} {k:Nat} {cs:List Value} (h:w.cells? base A k=some cs):cs.length=k∧∀(j:Nat) (u:Value),cs[j]? = some u->w.cell? (A.add j)=some u:=by
 obtain⟨_,b,c⟩:=World.cells?_some h
 refine⟨b,fun j u a=>?_⟩
 have d:=bA a
 rw[c j (by omega)];exact a
theorem yP {s:Type} (r:eH s) {t e:TypeId} (T:P.underlying t=some (.slice e)) (hc:P.cellsOf e=r.sz)
  (B:∀(n:Nat) (cs:List Value) (x:DataW H×List MemPlace),DataW.trod enc P w base spare held n e cs=some x->∃y:s,r.R w (fun _=>True) cs y)
  {U:Nat} {v:Value} {x:DataW H×List MemPlace} (h:DataW.trod enc P w base spare held U t [v]=some x):∃xs:List s,Gs r w (fun _=>True) v xs:=by
 rcases Deep.open_slice T h with⟨I,_⟩|⟨a,len,cap,m,n,D,Y,I,Z,hl,hm,E,_,W⟩
 ·cases I
  exact⟨[],none,0,rfl,by simp,.inl rfl⟩
 cases I
 have S:len<=m:=by rw[E];split<;>omega
 by_cases Q:len=0
 ·subst Q
  exact⟨[],some a,cap,rfl,by simp,.inl rfl⟩
 -- the elements,chosen one by one
 have J:∀k,k<=len->∃xs:List s,xs.length=k∧∀i y,xs[i]? = some y->∃d,(∀(j:Nat) (u:Value),d[j]? = some u->w.cell? ((a.add (i*P.cellsOf e)).add j)=some u)∧r.R w (fun _=>True) d y:=by
  intro k
  induction k with
  |zero=>exact fun _=>⟨[],rfl,fun i y l=>by simp at l⟩
  | succ k ih =>
   intro hk
   obtain⟨xs,p,q⟩:=ih (by omega)
   obtain⟨g,z,G⟩:=W k (by omega)
   obtain⟨y,l⟩:=B n g _ G
   refine⟨xs++[y],by simp[p],fun i X f=>?_⟩
   by_cases M:i<xs.length
   ·rw[List.getElem?_append_left M]at f;exact q i X f
   have C:i=k:=by
    have:=bA f
    simp at this;omega
   subst C
   rw[List.getElem?_append_right (by omega),p,Nat.sub_self]at f
   simp at f;subst f
   exact⟨g,(Qy z).2,l⟩
 obtain⟨xs,p,q⟩:=J len (Nat.le_refl _)
 have c:a.spot=none:=by
  obtain⟨d,A,F⟩:=q 0 (xs[0]'(by omega)) (List.getElem?_eq_getElem _)
  have K:=r.len F
  have L:=r.pos
  have:=A 0 (d[0]'(by omega)) (List.getElem?_eq_getElem _)
  rw[Nat.zero_mul]at this
  have N:(a.add 0).add 0=a:=rfl
  rw[N]at this
  unfold World.cell? at this
  split at this
  ·split at this
   ·cases this
   rename_i O;simpa using O
  cases this
 obtain⟨b,o,sp⟩:=a
 simp only at c
 subst c
 refine⟨xs,some ⟨b,o,none⟩,cap,by rw[p],?_,.inr ⟨b,o,rfl,trivial,fun i y l=>?_⟩⟩
 ·have:maxLen=9223372036854775807:=rfl
  exact⟨by omega,by omega⟩
 obtain⟨d,A,F⟩:=q i y l
 refine⟨d,fun j u V=>?_,F⟩
 have:=A j u V
 rw[dK,dK,hc]at this
 rwa[Nat.add_assoc]at this
theorem Hw {k:IntKind} {e:TypeId} (a:P.underlying e=some (.int k)) (n:Nat) (cs:List Value) (x:DataW H×List MemPlace) (h:DataW.trod enc P w base spare held n e cs=some x):∃y:Int,(eH.int k).R w (fun _=>True) cs y:=by
 obtain⟨y,b,_,_⟩:=DataW.trod_int a h
 exact⟨y,b⟩
theorem Qz:Tryz.prog.cellsOf 3=1:=by kernel_rfl
theorem Kw {a:Nat} {v:Value} {d:DataW H} {p:List MemPlace} (c:Value.okWide Tryz.prog w .any a 22 v) (h:DataW.Trod enc Tryz.prog w base spare held 22 v d p):∃xs:List Int,(Sl (eH.int .i64) v xs).p w (fun _=>True):=by
 obtain⟨e,len,cap,rfl⟩:=okWide_slice Tryz.underlying22 c
 obtain⟨U,b⟩:=h
 exact yP (eH.int .i64) Tryz.underlying22 Qz (Hw Tryz.underlying3) (by simpa [Value.cells]using b)
end
end Go.Sx
end
section
namespace Go.Sx
open Go.RowKit
section

def ck {a:Type} (p:Prop) [Decidable p] (x:Option a):Option a:=if p then x else none
theorem OX {b:Type} {p:Prop} [Decidable p] {x:Option b} {r:b} (h:ck p x=some r):p∧x=some r:=by
 unfold ck at h
 by_cases a:p
 ·rw[if_pos a]at h;exact⟨a,h⟩
 ·rw[if_neg a]at h;cases h
theorem Ji {a:Type} {p:Prop} [Decidable p] {x y:Option a} {r:a} (b:p) (h:(if p then x else y)=some r):x=some r:=by rwa[if_pos b]at h
theorem Zv {a:Type} {p:Prop} [Decidable p] {x y:Option a} {r:a} (b:¬p) (h:(if p then x else y)=some r):y=some r:=by rwa[if_neg b]at h
theorem Eh {a:Type} {b:Bool} {x y:Option a} {r:a} (c:b=false) (h:(if b=true then x else y)=some r):y=some r:=by
 rwa[if_neg (by simp[c])]at h
theorem ZV {a b:Type} {x:Option a} {f:a->Option b} {r:b} (h:x.bind f=some r):∃y,x=some y∧f y=some r:=Option.bind_eq_some_iff.1 h
def bM {X R:Type} (step:X->(X->Option R)->Option R):Nat->X->Option R
 |0,_=>none
 |k+1,x=>step x (bM step k)

def aC (M L:List aX) (g:aX):Prop:=∀(w:World) (S:Nat->Prop) (T:Nat->Nat->Prop) (U:Nat->Prop),(∀f∈L,f.p w S)->(∀(i:Nat) (m:aX),M[i]? = some m->m.p w (T i))->(∀k,S k->U k)->(∀i k,T i k->U k)->g.p w U
section
variable {M L:List aX} {α β:Type} {e:c_ α} {r:eH α} {v:Value}
theorem aX.wide {f:aX} {w:World} {S U:Nat->Prop} (h:f.p w S) (a:∀k,S k->U k):f.p w U:=f.mono h fun k b _=>⟨a k b,rfl⟩
theorem aC.fact {g:aX} (j:Nat) (h:L[j]? = some g):aC M L g:=fun _ _ _ _ a _ b _=>aX.wide (a g (List.mem_of_getElem? h)) b
theorem aC.res {m:aX} (i:Nat) (h:M[i]? = some m):aC M L m:=fun _ _ _ _ _ a _ b=>aX.wide (a i m h) (b i)
theorem aC.mono {f g:aX} (h:aC M L f) (a:∀{w U},f.p w U->g.p w U):aC M L g:=fun w S T U b c d i=>a (h w S T U b c d i)
theorem aT {xs:List α} (h:aC M L (Ar e v xs)) (a:e.Fits r):aC M L (Sl r v xs):=h.mono fun h=>Bv.sl a h
theorem aC.nil:aC M L (Sl r (.slice none 0 0) []):=fun _ _ _ _ _ _ _ _=>⟨none,0,rfl,by simp,.inl rfl⟩
def Sn {β:Type} (r:eH α) (b:α->β) (v:Value) (a:List α) (xs:List β):aX where
 p w S:=Gs r w S v a∧a.map b=xs
 mono:=fun h e=>⟨h.1.mono e,h.2⟩
abbrev S2 (r:eH α) (v:Value) (a:List (Value×List α)) (xss:List (List α)):aX:=Sn (eH.sl r) (fun z=>z.2) v a xss
theorem aC.sl {b:α->β} {a:List α} {xs:List β} (h:aC M L (Sn r b v a xs)):aC M L (Sl r v a):=h.mono fun h=>h.1
theorem Vr [Inhabited α] [Inhabited β] (f:α->β) {a:List α} {i:Int} (c:0<=i) (d:i<a.length):at' (a.map f) i=f (at' a i):=by
 have h:=jW c d
 have b:=jW (xs:=a.map f) c (by simpa using d)
 rw[List.getElem?_map,h]at b
 simpa using b.symm
theorem aC.el {a:List (Value×List α)} {xss:List (List α)} {i:Int} (h:aC M L (S2 r v a xss)) (b:0<=i) (c:i<xss.length):aC M L (Sl r (at' a i).1 (at' xss i)):=h.mono fun {w U} h=>by
 obtain⟨h,d⟩:=h
 have f:i<a.length:=by rw[<-d]at c;simpa using c
 obtain⟨j,g,_⟩:=sl_cell h (jW b f)
 rw[<-d,Vr _ b f]
 exact g.2
theorem aP {i j:Nat} {vs:List Value} {xss:List (List α)} (g:M[i]? = some (Ar c_.raw v vs)) (l:M[j]? = some (gU e vs xss)) (a:e.Fits r):aC M L (S2 r v (vs.zip xss) xss):=fun w S T U n b o d=>by
 have f:=b i _ g
 have c:=b j _ l
 refine⟨(WI a f c).mono fun k m _=>⟨?_,rfl⟩,?_⟩
 ·rcases m with h|h
  ·exact d i k h
  ·exact d j k h
 ·rw[List.map_snd_zip]
  obtain⟨p,_⟩:=c;omega
theorem aC.row {j:Nat} {vs:List Value} {xss:List (List α)} {k:Int} (l:M[j]? = some (gU e vs xss)) (a:e.Fits r) (b:0<=k) (g:k<xss.length):aC M L (Sl r (at' vs k) (at' xss k)):=fun w S T U n h o i=>by
 have c:=h j _ l
 have p:=c.1
 obtain⟨_,G,d,f,_⟩:=c
 exact(Bv.sl a (d k.toNat _ _ (jW b (by omega)) (jW b g))).mono fun q m _=>⟨i j q (f _ q m),rfl⟩
theorem aC.st {c:tP} {w:World} {g:aX} (h:aC M L g) (t:St c M L w):∃S,g.p w S:=by
 obtain⟨_,F,a,b⟩:=t
 exact⟨fun _=>True,h w (CJ c F) F (fun _=>True) b a.res (fun _ _=>trivial) (fun _ _ _=>trivial)⟩
end

section
variable {P:Program} {rd:Option Nat} {c:tP} {n:Sz} {σ:Fr} {M L:List aX} {Q:Exit->Act->World->Prop} {ops:Array Oper} {rest:List Oper}
variable {d:Option Tmp} {D:Nat} {ty:TypeId} {pos:String} {aft:Array Edge} {g:Option (Nat×Bool)}
variable {α β:Type} {e:c_ α} {r:eH α}
theorem fM [cA P] {T E:TypeId} {j k:Nat} {z:Value} {x:Operand} {v:Value} {xs:List α} (i:ev σ x=some v) (f:aC M L (Sl r v xs))
  (b:cA.tab P T=some ⟨.slice E,j,k,z⟩):Y P c n σ M L ⟨d,.call ⟨.builtin .len,#[x],#[T]⟩,ty,pos,aft,g⟩ (.int .i64 xs.length):=fun a w s t=>by
 obtain⟨S,l,cap,h,_,_⟩:=f.st t
 subst h
 simp[execOp,resolve,invoke,builtin,s.eval i,KB w (cA.ok b) rfl]
theorem iY [cA P] {T E:TypeId} {k l:Nat} {z:Value} {x:Operand} {v:Value} {f:α->β} {m:List α} {xs:List β} (j:ev σ x=some v) (b:aC M L (Sn r f v m xs))
  (i:cA.tab P T=some ⟨.slice E,k,l,z⟩):Y P c n σ M L ⟨d,.call ⟨.builtin .len,#[x],#[T]⟩,ty,pos,aft,g⟩ (.int .i64 xs.length):=fun a w s t=>by
 obtain⟨_,_,h⟩:=b.st t
 rw[<-h,List.length_map]
 exact fM j b.sl i a w s t
theorem bG [cA P] {T E:TypeId} {C F k G:Nat} {z H:Value} {l:TypeDesc} {x y:Operand} {v:Value} {i:Int} {xs:List α} (A:ev σ x=some v) (B:ev σ y=some (.int .i64 i)) (q:aC M L (Sl r v xs))
  (p:cA.tab P T=some ⟨.slice E,C,F,z⟩) (o:cA.tab P E=some ⟨l,k,G,H⟩) (h:0<=i∧i<xs.length):
  Y P c n σ M L ⟨d,.indexAddr T x y,ty,pos,aft,g⟩ (Cp v (i.toNat*k)):=fun a w s t=>by
 obtain⟨m,j⟩:=h
 obtain⟨S,I,cap,u,_,h⟩:=q.st t
 rcases h with h|⟨b,f,rfl,_,_⟩
 ·subst h;simp at j;omega
 ·subst u
  simp[execOp,s.eval A,s.eval B,Fv w (cA.ok p) rfl (cA.ok o) b f _ cap i m j]
theorem Sn.len {w:World} {S:Nat->Prop} {v:Value} {b:α->β} {a:List α} {xs:List β} (h:(Sn r b v a xs).p w S):a.length=xs.length:=by rw[<-h.2];simp
theorem cG [cA P] {T E:TypeId} {u A f B:Nat} {z C:Value} {j:TypeDesc} {x y:Operand} {v:Value} {i:Int} {k:α->β} {F:List α} {xs:List β} (p:ev σ x=some v) (q:ev σ y=some (.int .i64 i)) (b:aC M L (Sn r k v F xs))
  (o:cA.tab P T=some ⟨.slice E,u,A,z⟩) (m:cA.tab P E=some ⟨j,f,B,C⟩) (h:0<=i∧i<xs.length):
  Y P c n σ M L ⟨d,.indexAddr T x y,ty,pos,aft,g⟩ (Cp v (i.toNat*f)):=fun a w s t=>by
 obtain⟨_,l⟩:=b.st t
 exact bG p q b.sl o m (by rw[Sn.len l];exact h) a w s t
theorem mD [cA P] [Inhabited α] {T:TypeId} {C E q o:Nat} {z:Value} {j:TypeDesc} {x:Operand} {v:Value} {i:Int} {xs:List α} {f:α->Value} (B:ev σ x=some (Cp v (i.toNat*q+o))) (u:aC M L (Sl r v xs))
  (m:cA.tab P T=some ⟨j,C,E,z⟩) (p:uA j=false) (A:r.sz=q) (hc:r.Cell o f) (h:0<=i∧i<xs.length):
  Y P c n σ M L ⟨d,.load T x,ty,pos,aft,g⟩ (f (at' xs i)):=fun a w s t=>by
 obtain⟨k,l⟩:=h
 obtain⟨S,h⟩:=u.st t
 obtain⟨F,y,b⟩:=sl_cell h (jW k l)
 have:=b o _ (hc y)
 rw[A]at this
 simp[execOp,s.eval B,Cp,wD (cA.ok m) p this]
theorem cK [cA P] [Inhabited α] {T:TypeId} {p s q:Nat} {z:Value} {a:TypeDesc} {x:Operand} {v:Value} {i:Int} {xs:List α} {f:α->Value} (m:ev σ x=some (Cp v (i.toNat*q))) (k:aC M L (Sl r v xs))
  (b:cA.tab P T=some ⟨a,p,s,z⟩) (j:uA a=false) (l:r.sz=q) (hc:r.Cell 0 f) (h:0<=i∧i<xs.length):
  Y P c n σ M L ⟨d,.load T x,ty,pos,aft,g⟩ (f (at' xs i)):=mD (o:=0) m k b j l hc h
theorem cI [cA P] {T:TypeId} {q u:Nat} {z:Value} {b:TypeDesc} {x:Operand} {v:Value} {i:Int} {k:List (Value×List α)} {xss:List (List α)} (p:ev σ x=some (Cp v (i.toNat*1))) (j:aC M L (S2 r v k xss))
  (m:cA.tab P T=some ⟨b,q,u,z⟩) (o:uA b=false) (h:0<=i∧i<xss.length):
  Y P c n σ M L ⟨d,.load T x,ty,pos,aft,g⟩ (at' k i).1:=fun a w s t=>by
 obtain⟨_,l⟩:=j.st t
 exact cK (r:=eH.sl r) (f:=fun z=>z.1) p j.sl m o rfl (eH.sl_cell r) (by rw[Sn.len l];exact h) a w s t
theorem gZ [cA P] (j:Nat) {T:TypeId} {o:Nat} {z:Value} {a:TypeDesc} {x:Operand} {v:Value} {i:Int} {vs:List Value} {m:Nat} (l:ev σ x=some (Cp v (i.toNat*1))) (k:M[j]? = some (Ar c_.raw v vs)) (p:vs.length=m)
  (b:cA.tab P T=some ⟨a,1,o,z⟩) (f:uA a=false) (h:0<=i∧i<m):
  Y P c n σ M L ⟨d,.load T x,ty,pos,aft,g⟩ (at' vs i):=Si j l k b f rfl rfl h.1 (by omega)
theorem gV [cA P] [Inhabited α] {T:TypeId} {J q:Nat} {z:Value} {m:TypeDesc} {x:Operand} {v:Value} {i:Int} {xs:List α} {cs:List Value} (I:ev σ x=some (Cp v (i.toNat*q))) (E:aC M L (Sl r v xs)) (f:e.Fits r) (k:e.enc (at' xs i)=cs)
  (y:cA.tab P T=some ⟨m,cs.length,J,z⟩) (B:uA m=true) (F:e.sz=q) (h:0<=i∧i<xs.length):Y P c n σ M L ⟨d,.load T x,ty,pos,aft,g⟩ (.agg cs.toArray):=fun a w s t=>by
 obtain⟨o,p⟩:=h
 obtain⟨S,h⟩:=E.st t
 obtain⟨K,G,b⟩:=sl_cell h (jW o p)
 obtain⟨l,C,_,_⟩:=f
 have:=C G
 subst this k
 rw[l,F]at b
 have:=xA (w:=w) (A:=Ix v (i.toNat*q)) (cs:=e.enc (at' xs i)) (cA.ok y) B rfl (fun j u H=>by rw[Gv];exact b j u H)
 simp[execOp,s.eval I,Cp,this]

def aA (M L:List aX) (a:List aX):Prop:=∀f∈a,aC M L f
theorem aA.nil:aA M L []:=fun _ h=>by simp at h
theorem aA.cons {f:aX} {b:List aX} (h:aC M L f) (k:aA M L b):aA M L (f::b):=fun x a=>by
 rcases List.mem_cons.1 a with rfl|a
 ·exact h
 ·exact k x a
theorem Lo {w w':World} {b:List aX} {F:Nat->Nat->Prop} {U:Nat->Prop} (l:Ae c.O c.w0 w) (i:W_ c w M F) (j:∀f∈L,f.p w (CJ c F))
  (t:St ⟨w,U,fun _=>False⟩ b [] w'):St c (b++M) L w':=by
 obtain⟨h,F',a,_⟩:=t
 have t2:St ⟨w,CJ c F,fun _=>False⟩ b [] w':=⟨h,F',⟨a.res,a.rng,a.dis⟩,fun f k=>by simp at k⟩
 exact St.call l i j t2
theorem Nq {A:Type} {j:A->Value} {k:A->List aX->List aX} {f:FuncId} {xs:List Operand} {vs:List Value} {b:Array TypeId} {o:List aX} (u:aO P f)
  (z:aV P f vs.toArray o j k (fun _ l=>l)) (C:xs.map (ev σ)=vs.map some) (q:aA M L o) (m:∀x l,k x l=k x []++l):
  aG P c n σ M L ⟨d,.call ⟨.value (.func f),xs.toArray,b⟩,ty,pos,aft,g⟩ j (fun x=>k x M) (fun _=>L):=fun a w s t=>by
 have i:(execOp a.eval ⟨d,.call ⟨.value (.func f),xs.toArray,b⟩,ty,pos,aft,g⟩).run P w = .ok (.enter f vs.toArray) w:=by
  have e:=YF s C
  simp[execOp,resolve,Act.eval,Deferred.ofValue,invoke,u _ w,e]
 simp only[Oper.wp,i,Oper.upon]
 obtain⟨y,F,p,h⟩:=t
 refine(z w (fun _=>True) (fun f v=>q f v w (CJ c F) F _ h p.res (fun _ _=>trivial) (fun _ _ _=>trivial))).mono ?_
 rintro e w' ⟨x,rfl,B⟩
 refine⟨x,rfl,?_⟩
 rw[m]
 exact Lo y p h B
theorem oY {A:Type} {j:A->Value} {k:A->List aX->List aX} {f:FuncId} {t:Tmp} {xs:List Operand} {vs cs:List Value} {b:Array TypeId} {p:List aX} (y:aO P f)
  (o:lk σ t=some (.func (.func f) #[] cs.toArray)) (C:aV P f (vs++cs).toArray p j k (fun _ l=>l)) (E:xs.map (ev σ)=vs.map some) (v:aA M L p) (m:∀x l,k x l=k x []++l):
  aG P c n σ M L ⟨d,.call ⟨.value (.tmp t),xs.toArray,b⟩,ty,pos,aft,g⟩ j (fun x=>k x M) (fun _=>L):=fun a w s G=>by
 have i:(execOp a.eval ⟨d,.call ⟨.value (.tmp t),xs.toArray,b⟩,ty,pos,aft,g⟩).run P w = .ok (.enter f (vs++cs).toArray) w:=by
  have e:=YF s E
  have u:a.eval (.tmp t) = .func (.func f) #[] cs.toArray:=s.eval (x:= .tmp t) o
  simp[execOp,resolve,u,Deferred.ofValue,invoke,y _ w,e]
 simp only[Oper.wp,i,Oper.upon]
 obtain⟨B,F,q,h⟩:=G
 refine(C w (fun _=>True) (fun f z=>v f z w (CJ c F) F _ h q.res (fun _ _=>trivial) (fun _ _ _=>trivial))).mono ?_
 rintro e w' ⟨x,rfl,o⟩
 refine⟨x,rfl,?_⟩
 rw[m]
 exact Lo B q h o

theorem fU [cA P] (i:Nat) {r:eH α} (b:e.Fits r) {x y:Operand} {v u:Value} {xs ys:List α} {T E:TypeId} {U V k h:Nat} {z m:Value} {o:TypeDesc} (O:ev σ x=some v) (R:ev σ y=some u) (H:M[i]? = some (Ar e v xs)) (I:aC M L (Sl r u ys))
  (l:cA.tab P T=some ⟨.slice E,U,V,z⟩) (B:cA.tab P E=some ⟨o,k,h,m⟩) (q:e.sz=k) (A:Nat.ble h 1024=true) (W:(xs.length:Int)+ys.length<=1099511627) (S:m.cells.size=k):
  aG P c n σ M L ⟨d,.call ⟨.builtin .append,#[x,y],#[T,T]⟩,ty,pos,aft,g⟩ (fun f:Value=>f) (fun f=>M.set i (Ar e f (xs++ys))) (fun _=>L):=fun a w s t=>by
 subst q
 obtain⟨F,C⟩:=I.st t
 obtain⟨K,p⟩:=G_ b C l
 have j:h<=1024:=by simpa using A
 have G:(xs.length+ys.length)*h<=140737488355328:=Nat.le_trans (Nat.mul_le_mul (show xs.length+ys.length<=1099511627 by omega) j) (by decide)
 obtain⟨f,w',J,N⟩:=t.append (ty:=ty) H K p l B G (by omega) S
 simp only[Oper.wp,xZ s O R w,J,Result.andThen_ok,Oper.upon]
 exact⟨f,rfl,N⟩
theorem St.appendRow [cA P] {w:World} (t:St c M L w) {i:Nat} {u:Value} {k:Int} {vs:List Value} {xss:List (List α)} {ys:List α} {T E ty:TypeId} {s1 s2 X:Nat} {z Z:Value} {dE:TypeDesc} (W:M[i]? = some (gU e vs xss)) (x:Src P e.sz T u ys.length (cellsOf e ys) w) (s:(cellsOf e ys).all one=true)
  (hT:cA.tab P T=some ⟨.slice E,s1,s2,z⟩) (hE:cA.tab P E=some ⟨dE,e.sz,X,Z⟩) (U:0<=k) (h1:k<vs.length) (hb:((at' xss k).length+ys.length)*X<=140737488355328) (hl:(at' xss k).length+ys.length<=140737488355328) (hz:Z.cells.size=e.sz):
  ∃y w',(Builtin.append_ #[T,T] ty #[at' vs k,u]).run P w = .ok y w'∧St c (M.set i (gU e (vs.set k.toNat y) (xss.set k.toNat (at' xss k++ys)))) L w':=by
 have t0:=t
 obtain⟨ho,FF,V,N⟩:=t0
 have hR:=V.res i _ W
 obtain⟨o,G,S,K,C⟩:=hR
 have O:k.toNat<vs.length:=by omega
 have v:=S k.toNat _ _ (jW U h1) (jW U (by omega))
 obtain⟨y,w',F',hr,hA,j⟩:=Bv.append (ty:=ty) v x s hT hE hb hl hz
 refine⟨y,w',hr,?_⟩
 refine Ck ho V N W j.os j.tape j.out j.size (fun q a hn=>j.same q a (fun h=>hn (K _ q h))) (F':=fun q=>(F' q)∨∃b,b≠k.toNat∧G b q) ?_ ?_
 ·refine⟨by simp[o],fun b q=>(b=k.toNat∧F' q)∨(b≠k.toNat∧G b q∧q<w.heap.size),?_,?_,?_⟩
  ·intro b Y A l m
   by_cases B:b=k.toNat
   ·subst B
    rw[List.getElem?_set_self O]at l
    rw[List.getElem?_set_self (by omega)]at m
    cases l;cases m
    exact aX.same (f:=Ar e y (at' xss k++ys)) hA (fun q a=> .inl ⟨rfl,a⟩) (fun _ _ _=>rfl)
   ·rw[List.getElem?_set_ne (Ne.symm B)]at l m
    exact(Ar e Y A).mono (S b Y A l m) (fun q a p=>⟨.inr ⟨B,a,p⟩,j.same q p (fun h=>B (C _ _ q a h))⟩)
  ·rintro b q (⟨_,a⟩|⟨R,a,_⟩)
   ·exact .inl a
   ·exact .inr ⟨b,R,a⟩
  ·rintro j1 j2 q (⟨I,F⟩|⟨I,F,l1⟩) (⟨J,H⟩|⟨J,H,l2⟩)
   ·rw[I,J]
   ·rcases j.sub q F with h|⟨h,_⟩
    ·exact absurd (C _ _ q H h) J
    ·omega
   ·rcases j.sub q H with h|⟨h,_⟩
    ·exact absurd (C _ _ q F h) I
    ·omega
   ·exact C _ _ q F H
 ·rintro q (a|⟨b,_,a⟩)
  ·rcases j.sub q a with h|h
   ·exact .inl (K _ q h)
   ·exact .inr h
  ·exact .inl (K _ q a)
theorem kJ [cA P] (i:Nat) {r:eH α} (b:e.Fits r) {x y:Operand} {u:Value} {k:Int} {vs:List Value} {xss:List (List α)} {ys:List α} {T E:TypeId} {X Y m j:Nat} {z v:Value} {A:TypeDesc} (U:ev σ x=some (at' vs k)) (V:ev σ y=some u) (p:M[i]? = some (gU e vs xss)) (N:aC M L (Sl r u ys))
  (o:cA.tab P T=some ⟨.slice E,X,Y,z⟩) (I:cA.tab P E=some ⟨A,m,j,v⟩) (G:e.sz=m) (H:Nat.ble j 1024=true) (B:0<=k∧k<xss.length) (Z:((at' xss k).length:Int)+ys.length<=1099511627) (W:v.cells.size=m):
  aG P c n σ M L ⟨d,.call ⟨.builtin .append,#[x,y],#[T,T]⟩,ty,pos,aft,g⟩ (fun f:Value=>f) (fun f=>M.set i (gU e (vs.set k.toNat f) (xss.set k.toNat (at' xss k++ys)))) (fun _=>L):=fun a w s t=>by
 subst G
 obtain⟨F,J⟩:=N.st t
 obtain⟨R,C⟩:=G_ b J o
 have l:j<=1024:=by simpa using H
 have K:((at' xss k).length+ys.length)*j<=140737488355328:=Nat.le_trans (Nat.mul_le_mul (show(at' xss k).length+ys.length<=1099511627 by omega) l) (by decide)
 have q:vs.length=xss.length:=by obtain⟨_,h⟩:=t.res p;exact h.1
 obtain⟨f,w',O,S⟩:=t.appendRow (ty:=ty) p R C o I B.1 (by omega) K (by omega) W
 simp only[Oper.wp,xZ s U V w,O,Result.andThen_ok,Oper.upon]
 exact⟨f,rfl,S⟩
end
end
section
section
variable {P:Program} {rd:Option Nat} {c:tP} {n:Sz} {σ:Fr} {M L M' L':List aX} {Q:Exit->Act->World->Prop} {ops:Array Oper} {rest:List Oper} {K:Act->World->Prop}
variable {d:Option Tmp} {D:Nat} {ty:TypeId} {pos:String} {aft:Array Edge} {g:Option (Nat×Bool)}
variable {α β:Type} {e:c_ α} {r:eH α}
theorem St.weakE {w:World} (h:St c M L w) (j:aS M M') (i:aA [] L L'):St c M' L' w:=by
 obtain⟨l,F,b,k⟩:=h.weak (L':=L) j (fun _ h=>h)
 exact⟨l,F,b,fun f a=>i f a w (CJ c F) (fun _ _=>False) (CJ c F) k (fun _ _ h=>by simp at h) (fun _ h=>h) (fun _ _ h=>h.elim)⟩
theorem aA.refl (M L:List aX):aA M L L:=fun f a=>by
 obtain⟨j,b⟩:=List.getElem?_of_mem a
 exact aC.fact j b

def RX {A B:Type} (c:tP) (n:Sz) (C:A->Prop) (b:A->B->Fr) (h f:A->B->List aX) (a:Act) (w:World):Prop:=∃x y,C x∧Dl n (b x y) a∧St c (h x y) (f x y) w
theorem xC {A B:Type} {x:Code} (C:A->Prop) (f:A->B->Fr) (i h:A->B->List aX) (k:J c n σ M L (x.wpr rd P (Exit.then (RX c n C f i h) Q))) (m:∀a b,C a->J c n (f a b) (i a b) (h a b) K):
  J c n σ M L (x.wpr rd P (Exit.then K Q)):=fun a w s t=>EF (fun e j w' q=>by
 cases e with
 |normal=>obtain⟨z,y,o,p,u⟩:=q;exact m z y o j w' p u
 |exit id=>exact q
 |goto l=>exact q
 |ret=>exact q
 |panic ch=>exact q
 |outgrown=>exact q) (k a w s t)
theorem bO {A B:Type} {C:A->Prop} {a:A->B->Fr} {f b:A->B->List aX} (x:A) (y:B) (h:C x) (k:wW σ (a x y)) (j:aS M (f x y)) (i:aA [] L (b x y)):J c n σ M L (RX c n C a f b):=
 fun _ _ s t=>⟨x,y,h,s.weak k,t.weakE j i⟩

def U_ {A B R:Type} (c:tP) (n:Sz) (step:A->(A->Option R)->Option R) (r:R) (b:A->B->Fr) (h f:A->B->List aX) (k:Nat) (a:Act) (w:World):Prop:=
 ∃x y,bM step k x=some r∧Dl n (b x y) a∧St c (h x y) (f x y) w
theorem Ch {A B R:Type} {body:Code} (step:A->(A->Option R)->Option R) {r:R} {fuel:Nat} (σI:A->B->Fr) (MI LI:A->B->List aX) (a0:A) (b0:B) (h:bM step fuel a0=some r)
  (hs:wW σ (σI a0 b0)) (hM:aS M (MI a0 b0)) (hL:aA [] L (LI a0 b0))
  (round:∀k a b,step a (bM step k)=some r->J c n (σI a b) (MI a b) (LI a b) (body.wpr rd P (Exit.then (U_ c n step r σI MI LI k) Q))):J c n σ M L ((Code.loop body).wpr rd P Q):=by
 intro a w s t
 refine RI (X:=Nat×A×B) (fun x=>bM step x.1 x.2.1=some r) (fun x=>σI x.2.1 x.2.2) (fun x=>MI x.2.1 x.2.2) (fun x=>LI x.2.1 x.2.2) (fun x=>x.1) (fuel,a0,b0) h (wW.refl _) (aS.refl _) (fun _ h=>h) ?_ a w (s.weak hs) (t.weakE hM hL)
 rintro⟨k,x,y⟩ hC
 cases k with
 |zero=>cases hC
 |succ k=>
  refine RJ (round k x y hC) fun a w h=>EF (fun e a' w' q=> ?_) h
  cases e with
  |normal=>obtain⟨x',y',hC',hs',ht'⟩:=q;exact⟨(k,x',y'),hC',Nat.lt_succ_self k,hs',ht'⟩
  |exit id=>exact q
  |goto l=>exact q
  |ret=>exact q
  |panic ch=>exact q
  |outgrown=>exact q
theorem kN {A B R:Type} {step:A->(A->Option R)->Option R} {r:R} {k:Nat} {a:A->B->Fr} {f b:A->B->List aX} (x:A) (y:B) (h:bM step k x=some r) (l:wW σ (a x y)) (j:aS M (f x y)) (i:aA [] L (b x y)):
  J c n σ M L (U_ c n step r a f b k):=fun _ _ s t=>⟨x,y,h,s.weak l,t.weakE j i⟩

variable {l:List Oper} {m:List Nat} {k0:Nat} {H Bs:List (Nat×List aX×List aX)} {rs:List Nat}
theorem bD {i f:Nat} {j:Op} {v:Value} {b a:List aX} (s:l[i]? = some ⟨some f,j,ty,pos,aft,none⟩) (p:aS M b) (o:xT L a)
  (w:Y P c n σ b a ⟨some f,j,ty,pos,aft,none⟩ v) (k:aK (before m i) b a H)
  (h:JR c n ((f,v)::σ) M L H ((i,b,a)::Bs) (RW P l.toArray Q (before m) (cV l) k0 rs))
  (t:Nat.blt i k0=true:=by exact rfl) (u:dX j=false:=by exact rfl) (q:Nat.blt f n.sz=true:=by exact rfl):JR c n σ M L H Bs (RW P l.toArray Q (before m) (cV l) k0 (i::rs)):=
 JR.quiet b a s t u w ⟨p,o⟩ k q h
theorem vM {i k:Nat} {o:Op} {v:Value} {j:Nat} {b:Bool} {f a:List aX} (w:l[i]? = some ⟨some k,o,ty,pos,aft,some (j,b)⟩) (s:aS M f) (q:xT L a)
  (z:Y P c n σ f a ⟨some k,o,ty,pos,aft,some (j,b)⟩ v) (p:aK (before m i) f a H)
  (h:JR c n ((k,v)::σ) M L H ((i,f,a)::Bs) (RW P l.toArray Q (before m) (cV l) k0 rs))
  (x:Nat.blt i k0=true:=by exact rfl) (y:dX o=false:=by exact rfl) (u:gv l.toArray σ j=some b:=by exact rfl) (t:Nat.blt k n.sz=true:=by exact rfl):JR c n σ M L H Bs (RW P l.toArray Q (before m) (cV l) k0 (i::rs)):=
 Qj f a w x y u z ⟨s,q⟩ p t h

def C_ (b:Array Value):ResultVar->Sem Value
 | .tmp t=>pure (b.getD t undef)
 | .cell a t=>do loadVar t (<-asAddr (b.getD a undef))
theorem yN (fn:Func) (a:Array Value):results fn a=(do let vs <-fn.results.mapM (C_ a);pure (if h:vs.size=1 then vs[0]else .tuple vs)):=rfl
def RV (P:Program) (c:tP) (n:Sz) (σ:Fr) (M L:List aX) (b:ResultVar) (v:Value):Prop:=∀a w,Dl n σ a->St c M L w->(C_ a.tmps b).run P w = .ok v w
theorem RV.tmp {t:Tmp} {v:Value} (h:lk σ t=some v):RV P c n σ M L (.tmp t) v:=fun a w s _=>by simp[C_,s.slot t v h]
theorem RV.cell [cA P] (i:Nat) {q:Tmp} {T T':TypeId} {u:Nat} {z:Value} {f:TypeDesc} {b:Nat} {cs:List Value} (p:lk σ q=some (.pointer (some ⟨b,0,none⟩))) (h:M[i]? = some (bS b cs T')) (k:cA.tab P T=some ⟨f,cs.length,u,z⟩) (o:uA f=true):
  RV P c n σ M L (.cell q T) (.agg cs.toArray):=fun a w s t=>by
 obtain⟨F,j⟩:=t.res h
 simp[C_,s.slot q _ p,asAddr,Ur j k o]
theorem Lm [cA P] (i:Nat) {q:Tmp} {T T':TypeId} {x y:Nat} {z v:Value} {f:TypeDesc} {b:Nat} (u:lk σ q=some (.pointer (some ⟨b,0,none⟩))) (h:M[i]? = some (bS b [v] T')) (k:cA.tab P T=some ⟨f,x,y,z⟩) (p:uA f=false):
  RV P c n σ M L (.cell q T) v:=fun a w s t=>by
 obtain⟨F,j⟩:=t.res h
 have:=bS.cell j (o:=0) (v:=v) rfl
 simp[C_,s.slot q _ u,asAddr,loadVar,(cA.ok k).run_agg w,p,load,Sem.run,this]
variable {A:Type} {ret:A->Value} {MO LO:A->List aX->List aX} {fn:Func}
theorem Ci (x:A) (p:ret x = .tuple #[]) (b:fn.results = #[]) (f:Exit) (o:f = .ret∨f = .normal) (k:aS M (MO x [])) (j:aA [] L (LO x [])) (i:n.ds=[]:=by rfl):J c n σ M L (fZ P fn (Lk c ret MO LO) f):=fun a w s t=>
 Xw x f o (fun a w s t=>by simp[results,b,p]) k (fun _ h=>h) i a w s (t.weakE (aS.refl _) j)
theorem gE (x:A) {h:ResultVar} {i:Value} (q:ret x=i) (b:fn.results = #[h]) (j:RV P c n σ M L h i) (o:aS M (MO x [])) (k:aA [] L (LO x [])) (f:n.ds=[]:=by rfl):J c n σ M L (fZ P fn (Lk c ret MO LO) .ret):=fun a w s t=>by
 have p:(results fn a.tmps).run P w = .ok (ret x) w:=by
  have:=j a w s t
  simp only[yN,b]
  simp[q,this]
 exact body_end (.inl rfl) (s.defers.trans f) p ⟨x,rfl,t.weakE o k⟩
theorem dR (x:A) {j k:ResultVar} {o p:Value} (y:ret x = .tuple #[o,p]) (b:fn.results = #[j,k]) (f:RV P c n σ M L j o) (h:RV P c n σ M L k p) (u:aS M (MO x [])) (q:aA [] L (LO x [])) (i:n.ds=[]:=by rfl):J c n σ M L (fZ P fn (Lk c ret MO LO) .ret):=fun a w s t=>by
 have v:(results fn a.tmps).run P w = .ok (ret x) w:=by
  have f:=f a w s t
  have h:=h a w s t
  simp only[yN,b]
  simp[y,f,h]
 exact body_end (.inl rfl) (s.defers.trans i) v ⟨x,rfl,t.weakE u q⟩

def wI:IntKind->Int->Int
 | .i64,x=>if -9223372036854775808<=x∧x<=9223372036854775807 then x else IntKind.i64.wrap x
 | .u32,x=>if 0<=x∧x<=4294967295 then x else IntKind.u32.wrap x
 |k,x=>k.wrap x
theorem Dh (k:IntKind) (x:Int):wI k x=k.wrap x:=by
 unfold wI
 split
 ·split
  ·rename_i h;exact(JF h.1 h.2).symm
  ·rfl
 ·split
  ·rename_i h
   unfold IntKind.wrap
   simp only[IntKind.bits,IntKind.signed]
   simp
   omega
  ·rfl
 ·rfl
theorem xE {t h:TypeId} {x y:Operand} {k:IntKind} {p q:Int} (b:ev σ x=some (.int k p)) (f:ev σ y=some (.int k q)):
  Y P c n σ M L ⟨d,.binOp .add t x y h,ty,pos,aft,g⟩ (.int k (wI k (p+q))):=fun a w s _=>by
 simp[Dh,execOp,s.eval b,s.eval f,binOp,Op.intArith,iA]
theorem pD {t h:TypeId} {x y:Operand} {k:IntKind} {p q:Int} (b:ev σ x=some (.int k p)) (f:ev σ y=some (.int k q)):
  Y P c n σ M L ⟨d,.binOp .sub t x y h,ty,pos,aft,g⟩ (.int k (wI k (p - q))):=fun a w s _=>by
 simp[Dh,execOp,s.eval b,s.eval f,binOp,Op.intArith,iA]
theorem AL {t h:TypeId} {x y:Operand} {k:IntKind} {p q:Int} (b:ev σ x=some (.int k p)) (f:ev σ y=some (.int k q)):
  Y P c n σ M L ⟨d,.binOp .mul t x y h,ty,pos,aft,g⟩ (.int k (wI k (p*q))):=fun a w s _=>by
 simp[Dh,execOp,s.eval b,s.eval f,binOp,Op.intArith,iA]
theorem Sk {t i:TypeId} {x y:Operand} {k:IntKind} {p q:Int} (b:ev σ x=some (.int k p)) (f:ev σ y=some (.int k q)) (h:q≠0):
  Y P c n σ M L ⟨d,.binOp .quo t x y i,ty,pos,aft,g⟩ (.int k (wI k (p.tdiv q))):=fun a w s _=>by
 simp[Dh,execOp,s.eval b,s.eval f,binOp,Op.intDiv,iA,h]
def dC (k:IntKind) (x y:Int):Int:=k.wrap (BitVec.ofInt k.bits x &&& BitVec.ofInt k.bits y).toNat
def EH (k:IntKind) (x y:Int):Int:=k.wrap (BitVec.ofInt k.bits x ||| BitVec.ofInt k.bits y).toNat
def qG (k:IntKind) (x y:Int):Int:=k.wrap (BitVec.ofInt k.bits x &&& ~~~BitVec.ofInt k.bits y).toNat
def xF (k:IntKind) (x y:Int):Int:=k.wrap (x*2^(min y.toNat k.bits))
def oU (k:IntKind) (x y:Int):Int:=x.fdiv (2^(min y.toNat k.bits))
theorem Lu {t h:TypeId} {x y:Operand} {k:IntKind} {p q:Int} (b:ev σ x=some (.int k p)) (f:ev σ y=some (.int k q)):
  Y P c n σ M L ⟨d,.binOp .and t x y h,ty,pos,aft,g⟩ (.int k (dC k p q)):=fun a w s _=>by
 simp[execOp,s.eval b,s.eval f,binOp,Op.intBits,iA,dC]
theorem Nz {t h:TypeId} {x y:Operand} {k:IntKind} {p q:Int} (b:ev σ x=some (.int k p)) (f:ev σ y=some (.int k q)):
  Y P c n σ M L ⟨d,.binOp .or t x y h,ty,pos,aft,g⟩ (.int k (EH k p q)):=fun a w s _=>by
 simp[execOp,s.eval b,s.eval f,binOp,Op.intBits,iA,EH]
theorem DW {t h:TypeId} {x y:Operand} {k:IntKind} {p q:Int} (b:ev σ x=some (.int k p)) (f:ev σ y=some (.int k q)):
  Y P c n σ M L ⟨d,.binOp .andNot t x y h,ty,pos,aft,g⟩ (.int k (qG k p q)):=fun a w s _=>by
 simp[execOp,s.eval b,s.eval f,binOp,Op.intBits,iA,qG]
theorem FL {t j:TypeId} {x y:Operand} {k i:IntKind} {p q:Int} (b:ev σ x=some (.int k p)) (f:ev σ y=some (.int i q)) (h:0<=q):
  Y P c n σ M L ⟨d,.binOp .shl t x y j,ty,pos,aft,g⟩ (.int k (xF k p q)):=fun a w s _=>by
 have:¬q<0:=by omega
 simp[execOp,s.eval b,s.eval f,binOp,Op.shift,iA,xF,this]
theorem He {t j:TypeId} {x y:Operand} {k i:IntKind} {p q:Int} (b:ev σ x=some (.int k p)) (f:ev σ y=some (.int i q)) (h:0<=q):
  Y P c n σ M L ⟨d,.binOp .shr t x y j,ty,pos,aft,g⟩ (.int k (oU k p q)):=fun a w s _=>by
 have:¬q<0:=by omega
 simp[execOp,s.eval b,s.eval f,binOp,Op.shift,iA,oU,this]
theorem EN [cA P] {t h:TypeId} {x:Operand} {k f:IntKind} {p:Int} {o q u v:Nat} {z y:Value} (j:ev σ x=some (.int k p)) (i:cA.tab P t=some ⟨.int k,o,q,z⟩) (b:cA.tab P h=some ⟨.int f,u,v,y⟩):
  Y P c n σ M L ⟨d,.convert t h x,ty,pos,aft,g⟩ (.int f (wI f p)):=fun a w s _=>by
 simp[Dh,execOp,s.eval j,convert,(cA.ok i).run_und w,(cA.ok b).run_und w,Conv.intToInt]
theorem OE {t:TypeId} {x:Operand} {k:IntKind} {p:Int} (b:ev σ x=some (.int k p)):Y P c n σ M L ⟨d,.unOp .neg t x,ty,pos,aft,g⟩ (.int k (wI k (0 - p))):=fun a w s _=>by
 simp[Dh,execOp,s.eval b,Op.unary,Op.intArith]
theorem PO [cA P] {t:TypeId} {f h:Nat} {z:Value} (b:cA.tab P t=some ⟨.bool,f,h,z⟩) (p q:Bool) (w:World):(Op.equal t (.bool p) (.bool q)).run P w = .ok (p==q) w:=by
 have a:∀m:Nat,(Op.equalIn (m+1) t (.bool p) (.bool q)).run P w = .ok (p==q) w:=fun m=>by simp[Op.equalIn,(cA.ok b).run_und w]
 exact a 9999
theorem Sg [cA P] {t k:TypeId} {x y:Operand} {p q:Bool} {i j:Nat} {z:Value} (f:ev σ x=some (.bool p)) (h:ev σ y=some (.bool q)) (b:cA.tab P t=some ⟨.bool,i,j,z⟩):
  Y P c n σ M L ⟨d,.binOp .eql t x y k,ty,pos,aft,g⟩ (.bool (p==q)):=fun a w s _=>by
 simp[execOp,s.eval f,s.eval h,binOp,eqGuard,PO b]
theorem XD [cA P] {t k:TypeId} {x y:Operand} {p q:Bool} {i j:Nat} {z:Value} (f:ev σ x=some (.bool p)) (h:ev σ y=some (.bool q)) (b:cA.tab P t=some ⟨.bool,i,j,z⟩):
  Y P c n σ M L ⟨d,.binOp .neq t x y k,ty,pos,aft,g⟩ (.bool (p != q)):=fun a w s _=>by
 simp[execOp,s.eval f,s.eval h,binOp,eqGuard,PO b,bne]
end
end
section
def c_.pair {c d:Type} (a:c_ c) (b:c_ d):c_ (c×d):=⟨a.sz+b.sz,Nat.lt_of_lt_of_le a.pos (Nat.le_add_right _ _),fun x=>a.enc x.1++b.enc x.2,fun x=>by simp[a.len,b.len]⟩
theorem nH {c d:Type} {a:c_ c} {b:c_ d} {r:eH c} {s:eH d} (h:a.Fits r) (k:b.Fits s):(a.pair b).Fits (r.pair s):=by
 obtain⟨e,f,g,i⟩:=h
 obtain⟨j,l,m,n⟩:=k
 refine⟨by simp[c_.pair,eH.pair,e,j],?_,?_,?_⟩
 ·rintro w S u x ⟨q,t,rfl,o,p⟩
  rw[f o,l p];rfl
 ·intro w S x;exact⟨_,_,rfl,g,m⟩
 ·intro x
  simp only[c_.pair,List.all_append,i,n,Bool.and_self]
section
variable {P:Program} {rd:Option Nat} {c:tP} {n:Sz} {σ:Fr} {M L M' L':List aX} {Q:Exit->Act->World->Prop} {ops:Array Oper} {rest:List Oper} {K:Act->World->Prop}
variable {d:Option Tmp} {D:Nat} {ty:TypeId} {pos:String} {aft:Array Edge} {g:Option (Nat×Bool)}
variable {α β:Type} {e:c_ α} {r:eH α}
theorem Lh {A:Type} {o:Oper} {f:A->Value} {xs:List α} (h:aG P c n σ M L o f (fun b=>Ar e (f b) xs::M) (fun _=>L)):aG P c n σ M L o (fun v:Value=>v) (fun v=>Ar e v xs::M) (fun _=>L):=fun a w s t=>
 nF (fun _ _ ⟨x,i,j⟩=>⟨f x,i,j⟩) (h a w s t)
theorem FM (e:c_ α) (k:Nat) (x:α):(cellsOf e (List.replicate k x))=(List.replicate k (e.enc x)).flatten:=by
 induction k with
 |zero=>rfl
 |succ k a=>simp only[List.replicate_succ,cellsOf,List.flatMap_cons,List.flatten_cons]at *;rw[a]
theorem TO (cs:List Value) (j:cs≠[]) (k:Nat):(madeCells cs.toArray (k*cs.length)).toList=(List.replicate k cs).flatten:=by
 have a:0<cs.length:=List.length_pos_iff.2 j
 apply List.ext_getElem
 ·simp[madeCells]
 ·intro i l o
  have p:i<k*cs.length:=by simpa [madeCells]using l
  have m:i%cs.length<cs.length:=Nat.mod_lt _ a
  have f:∀(k i:Nat) (h:i<((List.replicate k cs).flatten).length),((List.replicate k cs).flatten)[i]=cs[i%cs.length]'(Nat.mod_lt _ a):=by
   intro k
   induction k with
   |zero=>intro i h;simp at h
   | succ k ih =>
    intro i h
    simp only[List.replicate_succ,List.flatten_cons]
    by_cases b:i<cs.length
    ·rw[List.getElem_append_left b]
     simp[Nat.mod_eq_of_lt b]
    ·rw[List.getElem_append_right (by omega)]
     rw[ih]
     congr 1
     rw[<-Nat.mod_eq_sub_mod (by omega)]
  rw[f]
  simp[madeCells,m]
theorem nJ [cA P] {T E:TypeId} {G H j f:Nat} {z m:Value} {o:TypeDesc} {x:Operand} {k:Int} (a:α)
  (y:cA.tab P T=some ⟨.slice E,G,H,z⟩) (w:cA.tab P E=some ⟨o,j,f,m⟩) (C:ev σ x=some (.int .i64 k)) (s:Nat.ble f 1024=true) (h:0<=k∧k<=1099511627) (q:e.sz=j)
  (F:m.cells=(e.enc a).toArray) (p:(e.enc a).all one=true):
  aG P c n σ M L ⟨d,.makeSlice T x x,ty,pos,aft,g⟩ (fun v:Value=>v) (fun v=>Ar e v (List.replicate k.toNat a)::M) (fun _=>L):=by
 have t:f<=1024:=by simpa using s
 subst q
 have i:e.enc a≠[]:=by
  intro h;have:=e.len a;rw[h]at this;have:=e.pos;simp at *;omega
 refine Lh (aG.makeSlice (List.replicate k.toNat a) y w C h.1 ?_ (by omega) (by simp) ?_ ?_)
 ·have:=Int.mul_le_mul (show(f:Int)<=1024 by omega) h.2 h.1 (by decide)
  omega
 ·rw[F,FM,<-e.len a]
  exact TO _ i _
 ·rw[FM,List.all_eq_true]
  intro u B
  obtain⟨l,A,b⟩:=List.mem_flatten.1 B
  rw[(List.mem_replicate.1 A).2]at b
  exact List.all_eq_true.1 p u b
theorem cR [cA P] {T E:TypeId} {k u w f x:Nat} {z y:Value} {h:TypeDesc} {ps:List (Nat×Operand)} (xs:List α) (vs:List (Nat×Value))
  (t:ps.map (fun p=>(p.1,ev σ p.2))=vs.map (fun p=>(p.1,some p.2))) (m:cA.tab P T=some ⟨.slice E,u,w,z⟩) (l:cA.tab P E=some ⟨h,f,x,y⟩) (s:Nat.ble (k*f) 16777216=true)
  (b:∀a:Array Value,a.size=k*f->Instr.fill (fun i=>some (i*f,f)) a vs=some (cellsOf e xs).toArray)
  (o:xs.length=k) (q:Nat.ble xs.length 140737488355328=true) (j:(cellsOf e xs).all one=true):
  aG P c n σ M L ⟨d,.buildSlice T k ps.toArray,ty,pos,aft,g⟩ (fun v:Value=>v) (fun v=>Ar e v xs::M) (fun _=>L):=
 Lh (aG.buildSlice xs m l s t b o q j)
theorem Lc [cA P] (j:Nat) {T:TypeId} {t:Nat} {z:Value} {f:TypeDesc} {x y:Operand} {v u:Value} {i:Int} {xs:List α} (b:α) (h:0<=i∧i<xs.length) (q:ev σ x=some (Cp v (i.toNat*1))) (s:ev σ y=some u)
  (l:M[j]? = some (Ar e v xs)) (p:e.enc b=[u]) (a:one u=true) (k:cA.tab P T=some ⟨f,1,t,z⟩) (o:e.sz=1)
  (m:J c n σ (M.set j (Ar e v (xs.set i.toNat b))) L (wpList P ops Q rest)):
  J c n σ M L (wpList P ops Q (⟨none,.store T x y,ty,pos,aft,none⟩::rest)):=Lb j b q s p a l k o h.1 h.2 m
theorem iK [cA P] (j q:Nat) {T:TypeId} {F:Nat} {z:Value} {m:TypeDesc} {x y:Operand} {v u:Value} {i:Int} {vs b:List Value} {xss:List (List α)} (h:0<=i∧i<xss.length) (C:ev σ x=some (Cp v (i.toNat*1))) (E:ev σ y=some u)
  (p:M[j]? = some (Ar c_.raw v vs)) (B:M[q]? = some (gU e b xss)) (k:vs.set i.toNat u=b) (G:b.length=vs.length) (f:one u=true) (o:cA.tab P T=some ⟨m,1,F,z⟩)
  (A:J c n σ (M.set j (Ar c_.raw v b)) L (wpList P ops Q rest)):
  J c n σ M L (wpList P ops Q (⟨none,.store T x y,ty,pos,aft,none⟩::rest)):=fun a w s t=>by
 have l:b.length=xss.length:=by obtain⟨_,h⟩:=t.res B;exact h.1
 exact Lb j u C E rfl f p o rfl h.1 (by omega) (by rw[k];exact A) a w s t
end
end
section
def lK (M L M' L':List aX):Prop:=∀c w,St c M L w->St c M' L' w
section
variable {P:Program} {rd:Option Nat} {c:tP} {n:Sz} {σ:Fr} {M L M' L':List aX} {Q:Exit->Act->World->Prop} {ops:Array Oper} {rest:List Oper} {K:Act->World->Prop}
variable {d:Option Tmp} {D:Nat} {ty:TypeId} {pos:String} {aft:Array Edge} {g:Option (Nat×Bool)}
variable {α β:Type} {e:c_ α} {r:eH α}
variable {H Bs:List (Nat×List aX×List aX)} {G:Act->World->Prop} {GR:Act->World->List (Nat×World)->List (Nat×(World->Prop))->Prop}
theorem dV (h:lK M L M' L') (k:J c n σ M' L' G):J c n σ M L G:=fun a w s t=>k a w s (h c w t)
theorem JR.stp (h:lK M L M' L') (k:JR c n σ M' L' H Bs GR):JR c n σ M L H Bs GR:=fun a w X Y s t b f=>k a w X Y s (h c w t) b f
theorem bJ {p:Prop} (h:∀c w,St c M L w->p) (k:p->J c n σ M L G):J c n σ M L G:=fun a w s t=>k (h c w t) a w s t
theorem bN {p:Prop} (h:∀c w,St c M L w->p) (k:p->JR c n σ M L H Bs GR):JR c n σ M L H Bs GR:=fun a w X Y s t b f=>k (h c w t) a w X Y s t b f
theorem Know.one {v:Value} {xs:List α} (a:aC M L (Sl r v xs)):∀c w,St c M L w->one v=true:=fun c w t=>by
 obtain⟨S,f,cap,b,_⟩:=a.st t
 rw[b];rfl
theorem bZ (q:Nat) {vs:List Value} {xss:List (List α)} (a:M[q]? = some (gU e vs xss)):∀c w,St c M L w->vs.length=xss.length:=fun c w t=>by
 obtain⟨_,h⟩:=t.res a;exact h.1
theorem lK.add {m:aX} (h:∀w,m.p w (fun _=>False)):lK M L (m::M) L:=fun c w t=>by
 obtain⟨v,F,l,s⟩:=t
 refine⟨v,fun i k=>match i with|0=>False|i+1=>F i k,⟨?_,?_,?_⟩,fun f u=>aX.same (s f u) (fun k b=>⟨b.1,fun i a=>by
   cases i with
   |zero=>exact a
   |succ i=>exact b.2 i a⟩) (fun _ _ _=>rfl)⟩
 ·intro i x o
  cases i with
  |zero=>simp at o;subst o;exact h w
  |succ i=>exact l.res i x (by simpa using o)
 ·intro i k b
  cases i with
  |zero=>exact b.elim
  |succ i=>exact l.rng i k b
 ·intro i j k a q
  cases i with
  |zero=>exact a.elim
  |succ i=>
   cases j with
   |zero=>exact q.elim
   |succ j=>exact congrArg (· + 1) (l.dis i j k a q)
theorem dA (e:c_ α):lK M L (Ar e (.slice none 0 0) []::M) L:=lK.add fun _=>⟨by simp,rfl,.inl ⟨rfl,rfl⟩⟩
theorem oZ (e:c_ α) (k:Nat):lK M L (gU e (List.replicate k (.slice none 0 0)) (List.replicate k [])::M) L:=lK.add fun w=>by
 refine⟨by simp,fun _ _=>False,fun i v xs a b=> ?_,fun _ _ h=>h,fun _ _ _ h=>h.elim⟩
 rw[List.getElem?_replicate]at a b
 split at a
 ·rename_i h;rw[if_pos h]at b;cases a;cases b;exact⟨by simp,rfl,.inl ⟨rfl,rfl⟩⟩
 ·cases a
theorem gY (e:c_ α):lK M L (gU e [] []::M) L:=oZ e 0
theorem Nx (i j:Nat) {u:Value} {vs:List Value} {xss:List (List α)} {ys:List α} (p:Nat.beq i j=false) (J:M[i]? = some (gU e vs xss)) (N:M[j]? = some (Ar e u ys)):lK M L ((M.set i (gU e (vs++[u]) (xss++[ys]))).eraseIdx j) L:=fun c w t=>
 t.merge i j (fun e=>by subst e;simp at p) J N (by
  rintro w O A ⟨m,G,B,o,C⟩ I x
  refine⟨by simp[m],fun q k=>(q<vs.length∧G q k)∨(q=vs.length∧A k),?_,?_,?_⟩
  ·intro q v xs h l
   by_cases y:q<vs.length
   ·rw[List.getElem?_append_left y]at h
    rw[List.getElem?_append_left (by omega)]at l
    exact aX.same (f:=Ar e v xs) (B q v xs h l) (fun k a=> .inl ⟨y,a⟩) (fun _ _ _=>rfl)
   ·rw[List.getElem?_append_right (by omega)]at h
    rw[List.getElem?_append_right (by omega)]at l
    have s:q - vs.length=0:=by have:=bA h;simp at this;omega
    rw[s]at h
    rw[show q - xss.length=0 by omega]at l
    simp at h l;subst h;subst l
    exact aX.same (f:=Ar e u ys) I (fun k a=> .inr ⟨by omega,a⟩) (fun _ _ _=>rfl)
  ·rintro q k (⟨_,a⟩|⟨_,a⟩)
   ·exact .inl (o q k a)
   ·exact .inr a
  ·rintro q z k (⟨E,a⟩|⟨E,a⟩) (⟨F,b⟩|⟨F,b⟩)
   ·exact C q z k a b
   ·exact absurd b (x k (o q k a))
   ·exact absurd a (x k (o z k b))
   ·omega)
theorem Lq (i j:Nat) {vs us:List Value} {xss o:List (List α)} (z:Nat.beq i j=false) (O:M[i]? = some (gU e vs xss)) (R:M[j]? = some (gU e us o)):lK M L ((M.set i (gU e (vs++us) (xss++o))).eraseIdx j) L:=fun c w t=>
 t.merge i j (fun e=>by subst e;simp at z) O R (by
  rintro w S T ⟨h,G,F,x,I⟩ ⟨m,E,u,l,y⟩ A
  refine⟨by simp[h,m],fun q k=>(q<vs.length∧G q k)∨(vs.length<=q∧E (q - vs.length) k),?_,?_,?_⟩
  ·intro q v xs p s
   by_cases B:q<vs.length
   ·rw[List.getElem?_append_left B]at p
    rw[List.getElem?_append_left (by omega)]at s
    exact aX.same (f:=Ar e v xs) (F q v xs p s) (fun k a=> .inl ⟨B,a⟩) (fun _ _ _=>rfl)
   ·rw[List.getElem?_append_right (by omega)]at p
    rw[List.getElem?_append_right (by omega),<-h]at s
    exact aX.same (f:=Ar e v xs) (u _ v xs p s) (fun k a=> .inr ⟨by omega,a⟩) (fun _ _ _=>rfl)
  ·rintro q k (⟨_,a⟩|⟨_,a⟩)
   ·exact .inl (x q k a)
   ·exact .inr (l _ k a)
  ·rintro q C k (⟨J,a⟩|⟨J,a⟩) (⟨N,b⟩|⟨N,b⟩)
   ·exact I q C k a b
   ·exact absurd (l _ k b) (A k (x q k a))
   ·exact absurd (l _ k a) (A k (x C k b))
   ·have:=y _ _ k a b;omega)
theorem qR (i j:Nat) {u:Value} {k:Int} {vs:List Value} {xss:List (List α)} {ys:List α} (a:Nat.beq i j=false) (b:M[i]? = some (gU e vs xss)) (f:M[j]? = some (Ar e u ys)) (h:0<=k∧k<xss.length):
  lK M L ((M.set i (gU e (vs.set k.toNat u) (xss.set k.toNat ys))).eraseIdx j) L:=fun c w t=>by
 have l:=bZ i b c w t
 exact RN (n:=⟨0,[]⟩) (σ:=[]) (G:=fun _ w=>St c ((M.set i (gU e (vs.set k.toNat u) (xss.set k.toNat ys))).eraseIdx j) L w) (k:=k) i j a b f h.1 (by omega) (fun _ _ _ t=>t) ⟨#[],[]⟩ w ⟨rfl,rfl,fun _ _ h=>by simp[lk]at h⟩ t
theorem aA.tail (l:List aX) {a:List aX}:aA M (l++a) a:=fun f b=>by
 obtain⟨j,h⟩:=List.getElem?_of_mem (List.mem_append_right l b)
 exact aC.fact j h
theorem bF {l:List Oper} {m:List Nat} {b:Nat} {a:List Nat} (k:Nat) (i:a.all (Nat.ble b)=true) (f:a.map (l[·]?)=(l.drop k).map some) (h:J c n σ M L (wpList P l.toArray Q (l.drop k))):JR c n σ M L H Bs (RW P l.toArray Q (before m) (cV l) b a):=JR.tail i f h

def slq (v:Value) (l h b:Nat):Value:=match v with
 | .slice a _ cap=> .slice (if cap=l then a else a.map (·.add (l*b))) (h - l) (cap - l)
 |v=>v
theorem Gs.part {w:World} {S:Nat->Prop} {v:Value} {xs:List α} (C:Gs r w S v xs) {l h:Nat} (J:l<=h) (I:h<=xs.length):Gs r w S (slq v l h r.sz) ((xs.take h).drop l):=by
 obtain⟨a,cap,rfl,F,s⟩:=C
 have f:((xs.take h).drop l).length=h - l:=by simp;omega
 by_cases o:(xs.take h).drop l=[]
 ·rw[o]at f ⊢
  refine⟨_,_,by simp only[slq];congr 1;simpa using f.symm,by simp,.inl rfl⟩
 ·rcases s with rfl|⟨b,k,rfl,z,s⟩
  ·simp at o
  ·have A:l<h:=by
    rcases Nat.lt_or_ge l h with t|t
    ·exact t
    ·exfalso;apply o;apply List.eq_nil_of_length_eq_zero;omega
   have hc:cap≠l:=by omega
   refine⟨some ⟨b,k+l*r.sz,none⟩,cap - l,by simp[slq,hc,f,dK],by omega,.inr ⟨b,k+l*r.sz,rfl,z,fun i x m=> ?_⟩⟩
   have q:xs[l+i]? = some x:=by
    rw[List.getElem?_drop,List.getElem?_take]at m
    split at m
    ·exact m
    ·cases m
   obtain⟨y,p,B⟩:=s (l+i) x q
   refine⟨y,fun j u E=> ?_,B⟩
   have:=p j u E
   rw[Nat.add_mul]at this
   rw[show k+l*r.sz+(i*r.sz+j)=k+(l*r.sz+i*r.sz+j) by omega]
   exact this
theorem So [cA P] {T E:TypeId} {y A i B:Nat} {z C:Value} {j:TypeDesc} {x f:Operand} {v:Value} {k:Int} {xs:List α} (u:ev σ x=some v) (b:ev σ f=some (.int .i64 k)) (p:aC M L (Sl r v xs))
  (o:cA.tab P T=some ⟨.slice E,y,A,z⟩) (m:cA.tab P E=some ⟨j,i,B,C⟩) (h:0<=(0:Int)∧0<=k∧k<=xs.length):Y P c n σ M L ⟨d,.slice T x none (some f) none,ty,pos,aft,g⟩ (slq v (0:Int).toNat k.toNat i):=fun a w s t=>by
 obtain⟨S,F,cap,q,I,_⟩:=p.st t
 subst q
 have l:0<=k∧k<=(cap:Int):=by omega
 simp[execOp,s.eval u,s.eval b,Instr.sliceAt,Instr.slice,(cA.ok o).run_und w,Instr.sliceBounds,Instr.sliceBound,asIntOf,(cA.ok m).run_size w,slq,l]
theorem Sp [cA P] {T E:TypeId} {y A j B:Nat} {z C:Value} {k:TypeDesc} {x f:Operand} {v:Value} {i:Int} {xs:List α} (u:ev σ x=some v) (b:ev σ f=some (.int .i64 i)) (p:aC M L (Sl r v xs))
  (o:cA.tab P T=some ⟨.slice E,y,A,z⟩) (m:cA.tab P E=some ⟨k,j,B,C⟩) (h:0<=i∧i<=(xs.length:Int)∧(xs.length:Int)<=xs.length):Y P c n σ M L ⟨d,.slice T x (some f) none none,ty,pos,aft,g⟩ (slq v i.toNat (xs.length:Int).toNat j):=fun a w s t=>by
 obtain⟨S,F,cap,q,I,_⟩:=p.st t
 subst q
 have l:0<=i∧i<=(xs.length:Int):=by omega
 simp[execOp,s.eval u,s.eval b,Instr.sliceAt,Instr.slice,(cA.ok o).run_und w,Instr.sliceBounds,Instr.sliceBound,asIntOf,(cA.ok m).run_size w,slq,l]

theorem cZ [cA P] {T T':TypeId} {p q:Nat} {z:Value} {f:TypeDesc} {x:Operand} {b o:Nat} {cs:List Value} {v:Value} (m:ev σ x=some (.pointer (some ⟨b,o,none⟩)))
  (i:aC M L (bS b cs T')) (j:cA.tab P T=some ⟨f,p,q,z⟩) (k:uA f=false) (l:cs[o]? = some v):Y P c n σ M L ⟨d,.load T x,ty,pos,aft,g⟩ v:=fun a w s t=>by
 obtain⟨F,h⟩:=i.st t
 simp[execOp,s.eval m,wD (cA.ok j) k (bS.cell h l)]
theorem Ly [cA P] {T T':TypeId} {p:Nat} {z:Value} {f:TypeDesc} {x:Operand} {b:Nat} {cs:List Value} (o:ev σ x=some (.pointer (some ⟨b,0,none⟩)))
  (i:aC M L (bS b cs T')) (k:cA.tab P T=some ⟨f,cs.length,p,z⟩) (l:uA f=true):Y P c n σ M L ⟨d,.load T x,ty,pos,aft,g⟩ (.agg cs.toArray):=fun a w s t=>by
 obtain⟨F,h⟩:=i.st t
 have:=xA (w:=w) (A:=⟨b,0,none⟩) (cs:=cs) (cA.ok k) l rfl (fun j v m=>by rw[dK,Nat.zero_add];exact bS.cell h m)
 simp[execOp,s.eval o,this]


theorem eN [cA P] {T E:TypeId} {k v A f B:Nat} {z C:Value} {l:TypeDesc} {x y:Operand} {b:Nat} {i:Int} (q:ev σ x=some (.pointer (some ⟨b,0,none⟩))) (u:ev σ y=some (.int .i64 i))
  (p:cA.tab P T=some ⟨.array k E,v,A,z⟩) (o:cA.tab P E=some ⟨l,f,B,C⟩) (m:(f==0)=false) (h:0<=i∧i<(k:Int)):
  Y P c n σ M L ⟨d,.indexAddr T x y,ty,pos,aft,g⟩ (.pointer (some ⟨b,i.toNat*f,none⟩)):=fun a w s t=>by
 have j:f≠0:=by simpa using m
 simp[execOp,s.eval q,s.eval u,Instr.indexAt,asIntOf,(cA.ok p).run_und w,h,Instr.sureAddr,(cA.ok o).run_size w,j,dK]
end
end
section
section
variable {P:Program} {rd:Option Nat} {c:tP} {n:Sz} {σ:Fr} {M L M' L':List aX} {Q:Exit->Act->World->Prop} {ops:Array Oper} {rest:List Oper} {K:Act->World->Prop}
variable {d:Option Tmp} {D:Nat} {ty:TypeId} {pos:String} {aft:Array Edge} {g:Option (Nat×Bool)}
variable {α β:Type} {e:c_ α} {r:eH α}
theorem aK.b {A:Nat->Bool} {f a M L:List aX} {j:Nat} {H:List (Nat×List aX×List aX)} (h:A j=true) (k:aK A f a H):aK A f a ((j,M,L)::H):=⟨.inl h,k⟩
theorem aK.h {A:Nat->Bool} {b a M L:List aX} {j:Nat} {H:List (Nat×List aX×List aX)} (h:aS M b) (f:xT L a) (k:aK A b a H):aK A b a ((j,M,L)::H):=⟨.inr ⟨h,f⟩,k⟩
theorem aK.z {A:Nat->Bool} {b a:List aX}:aK A b a []:=trivial
theorem zL.b {A:Nat->Bool} {f a M L:List aX} {j:Nat} {H:List (Nat×List aX×List aX)} (h:A j=true) (k:zL A M L H):zL A M L ((j,f,a)::H):=⟨.inl h,k⟩
theorem zL.h {A:Nat->Bool} {b a M L:List aX} {j:Nat} {H:List (Nat×List aX×List aX)} (h:aS M b) (f:xT L a) (k:zL A M L H):zL A M L ((j,b,a)::H):=⟨.inr ⟨h,f⟩,k⟩
theorem zL.z {A:Nat->Bool} {M L:List aX}:zL A M L []:=trivial
theorem cB {v:Value} {vs:List Value} (h:one v=true) (k:vs.all one=true):(v::vs).all one=true:=by simp[h,k]
theorem bV (k:IntKind) (x:Int):(Value.int k x).cells = #[.int k x]:=rfl
theorem bQ (b:Bool):(Value.bool b).cells = #[.bool b]:=rfl
theorem bK (a:Option Addr) (l k:Nat):(Value.slice a l k).cells = #[.slice a l k]:=rfl
theorem bW (a:Option Addr):(Value.pointer a).cells = #[.pointer a]:=rfl
theorem bX (a:ByteArray):(Value.string a).cells = #[.string a]:=rfl
theorem bR (f:Fn) (a b:Array Value):(Value.func f a b).cells = #[.func f a b]:=rfl
theorem qQ (q:Nat) {vs:List Value} {xss:List (List α)} {k:Int} {u:Value} (o:M[q]? = some (gU e (vs.set k.toNat u) xss)) (h:0<=k∧k<xss.length):∀c w,St c M L w->Go.Sx.one u=true:=fun c w t=>by
 obtain⟨S,m,s,j,_⟩:=t.res o
 have a:k.toNat<vs.length:=by simp at m;omega
 obtain⟨_,_,l⟩:=j k.toNat u _ (by rw[List.getElem?_set_self a]) (List.getElem?_eq_getElem (by omega))
 rcases l with⟨f,_⟩|⟨b,p,cap,T,i,f,_⟩<;>(rw[f];rfl)
theorem EO [cA P] [Inhabited α] {T T':TypeId} {A:Nat} {z:Value} {j:TypeDesc} {x:Operand} {b k:Nat} {i:Int} {xs:List α} {u:Value} (l:ev σ x=some (.pointer (some ⟨b,i.toNat*1,none⟩)))
  (o:aC M L (bS b (cellsOf e xs) T')) (p:cA.tab P T=some ⟨j,1,A,z⟩) (q:uA j=false) (v:e.sz=1) (y:(e.enc (at' xs i))=[u]) (h:(0<=i∧i<(k:Int))∧xs.length=k):
  Y P c n σ M L ⟨d,.load T x,ty,pos,aft,g⟩ u:=fun a w s t=>by
 obtain⟨F,m⟩:=o.st t
 have f:=tU e xs i.toNat (at' xs i) (jW h.1.1 (by omega)) 0 u (by rw[y];rfl)
 rw[v,Nat.add_zero]at f
 rw[Nat.mul_one]at l f
 simp[execOp,s.eval l,wD (cA.ok p) q (bS.cell m f)]
theorem Dk [cA P] (q:Nat) {T T':TypeId} {w:Nat} {z:Value} {m:TypeDesc} {x y:Operand} {b k:Nat} {i:Int} {xs:List α} {u:Value} (l:α) (h:(0<=i∧i<(k:Int))∧xs.length=k) (j:ev σ x=some (.pointer (some ⟨b,i.toNat*1,none⟩))) (v:ev σ y=some u)
  (o:M[q]? = some (bS b (cellsOf e xs) T')) (t:e.enc l=[u]) (a:one u=true) (p:cA.tab P T=some ⟨m,1,w,z⟩) (f:e.sz=1)
  (s:J c n σ (M.set q (bS b (cellsOf e (xs.set i.toNat l)) T')) L (wpList P ops Q rest)):
  J c n σ M L (wpList P ops Q (⟨none,.store T x y,ty,pos,aft,none⟩::rest)):=by
 rw[Nat.mul_one]at j
 refine fY q j v a o p ?_ ?_
 ·have:=dG e xs;rw[f]at this;rw[Nat.blt_eq];omega
 ·rw[<-uE f t];exact s
end
end
end Go.Sx
end
section
namespace Go.Sx
section
abbrev vI (x:Int):Value:= .int .i64 x
abbrev vU (x:Int):Value:= .int .u32 x
abbrev vP (b:Nat):Value:= .pointer (some ⟨b,0,none⟩)
open Go.RowKit
variable {P:Program} {rd:Option Nat} {c:tP} {n:Sz} {σ:Fr} {M L:List aX} {Q:Exit->Act->World->Prop} {ops:Array Oper} {rest:List Oper} {d:Nat} {ty:TypeId} {pos:String} {aft:Array Edge} {x y:Operand} {v:Value} {K:Act->World->Prop}
theorem qkMove (h:(ev σ x,Nat.blt d n.sz)=(some v,true)) (k:J c n ((d,v)::σ) M L (wpList P ops Q rest)):J c n σ M L (wpList P ops Q (⟨some d,.move x,ty,pos,aft,none⟩::rest)):=aB (kT (Prod.mk.inj h).1) (Prod.mk.inj h).2 k
theorem qkAsg (h:(ev σ x,Nat.blt d n.sz)=(some v,true)) (k:J c n ((d,v)::σ) M L (wpList P ops Q rest)):J c n σ M L (wpList P ops Q (⟨some d,.assign x,ty,pos,aft,none⟩::rest)):=aB (nX (Prod.mk.inj h).1) (Prod.mk.inj h).2 k
theorem qkFld [cA P] {T:TypeId} {r s i t:Nat} {z w:Value} {e:Array Field} {p u q:String} {m:Bool} {g a j:Nat} {l:TypeDesc} {b o f:Nat} (h:(ev σ x,cA.tab P T,e[f]?,cA.tab P g,i==0,Nat.blt d n.sz)=(some (.pointer (some ⟨b,o,none⟩)),some ⟨.struct e,r,s,z⟩,some ⟨p,g,a,m,u,q,j⟩,some ⟨l,i,t,w⟩,false,true)) (k:J c n ((d,.pointer (some ⟨b,o+a,none⟩))::σ) M L (wpList P ops Q rest)):J c n σ M L (wpList P ops Q (⟨some d,.fieldAddr T x f,ty,pos,aft,none⟩::rest)):=by
  simp only[Prod.mk.injEq]at h
  exact aB (dD h.1 h.2.1 h.2.2.1 h.2.2.2.1 h.2.2.2.2.1) h.2.2.2.2.2 k
theorem qkLd [cA P] (i:Nat) {T T':TypeId} {e f:Nat} {z:Value} {a:TypeDesc} {b o:Nat} {cs:List Value} (h:(ev σ x,M[i]?,cA.tab P T,uA a,cs[o]?,Nat.blt d n.sz)=(some (.pointer (some ⟨b,o,none⟩)),some (bS b cs T'),some ⟨a,e,f,z⟩,false,some v,true)) (k:J c n ((d,v)::σ) M L (wpList P ops Q rest)):J c n σ M L (wpList P ops Q (⟨some d,.load T x,ty,pos,aft,none⟩::rest)):=by
  simp only[Prod.mk.injEq]at h
  exact aB (d_ i h.1 h.2.1 h.2.2.1 h.2.2.2.1 h.2.2.2.2.1) h.2.2.2.2.2 k
theorem qkLdA [cA P] (i:Nat) {T T':TypeId} {e:Nat} {z:Value} {a:TypeDesc} {b:Nat} {cs:List Value} (h:(ev σ x,M[i]?,cA.tab P T,uA a,Nat.blt d n.sz)=(some (.pointer (some ⟨b,0,none⟩)),some (bS b cs T'),some ⟨a,cs.length,e,z⟩,true,true)) (k:J c n ((d,.agg cs.toArray)::σ) M L (wpList P ops Q rest)):J c n σ M L (wpList P ops Q (⟨some d,.load T x,ty,pos,aft,none⟩::rest)):=by
  simp only[Prod.mk.injEq]at h
  exact aB (eF i h.1 h.2.1 h.2.2.1 h.2.2.2.1) h.2.2.2.2 k
theorem gdSkip {e:Op} {j:Nat} {b a:Bool} (h:(gv ops σ j,a==b,Nat.blt d n.sz)=(some a,false,true)) (k:J c n ((d,undef)::σ) M L (wpList P ops Q rest)):J c n σ M L (wpList P ops Q (⟨some d,e,ty,pos,aft,some (j,b)⟩::rest)):=by
  simp only[Prod.mk.injEq]at h
  exact RH h.1 h.2.1 h.2.2 k
theorem gyMove {j:Nat} {b:Bool} (h:(gv ops σ j,ev σ x,Nat.blt d n.sz)=(some b,some v,true)) (k:J c n ((d,v)::σ) M L (wpList P ops Q rest)):J c n σ M L (wpList P ops Q (⟨some d,.move x,ty,pos,aft,some (j,b)⟩::rest)):=by
  simp only[Prod.mk.injEq]at h
  exact aL h.1 (kT h.2.1) h.2.2 k
theorem qkLss {t a:TypeId} {i:IntKind} {p q:Int} (h:(ev σ x,ev σ y,Nat.blt d n.sz)=(some (.int i p),some (.int i q),true)) (k:J c n ((d,.bool (decide (p<q)))::σ) M L (wpList P ops Q rest)):J c n σ M L (wpList P ops Q (⟨some d,.binOp .lss t x y a,ty,pos,aft,none⟩::rest)):=by
  simp only[Prod.mk.injEq]at h
  exact aB (FJ h.1 h.2.1) h.2.2 k
theorem qkEql {t a:TypeId} {i:IntKind} {p q:Int} (h:(ev σ x,ev σ y,Nat.blt d n.sz)=(some (.int i p),some (.int i q),true)) (k:J c n ((d,.bool (decide (p=q)))::σ) M L (wpList P ops Q rest)):J c n σ M L (wpList P ops Q (⟨some d,.binOp .eql t x y a,ty,pos,aft,none⟩::rest)):=by
  simp only[Prod.mk.injEq]at h
  exact aB (yE h.1 h.2.1) h.2.2 k
theorem qkAdd {t a:TypeId} {i:IntKind} {p q:Int} (h:(ev σ x,ev σ y,Nat.blt d n.sz)=(some (.int i p),some (.int i q),true)) (k:J c n ((d,.int i (wI i (p+q)))::σ) M L (wpList P ops Q rest)):J c n σ M L (wpList P ops Q (⟨some d,.binOp .add t x y a,ty,pos,aft,none⟩::rest)):=by
  simp only[Prod.mk.injEq]at h
  exact aB (xE h.1 h.2.1) h.2.2 k
theorem cdI {e b:Code} {p:Prop} {_:Decidable p} {f:Type} {u w:Option f} {r:f} (h:(if p then u else w)=some r) (j:ev σ x=some (.bool (decide p))) (i:p->u=some r->J c n σ M L (e.wpr rd P Q)) (g:¬p->w=some r->J c n σ M L (b.wpr rd P Q)):J c n σ M L ((Code.cond x e b).wpr rd P Q):=Va j (fun a=>i a (Ji a h)) (fun a=>g a (Zv a h))
theorem eZ {b a:Code} {p:Prop} {_:Decidable p} {e:Type} {u w:Option e} {r:e} (h:(if p then u else w)=some r) (i:ev σ x=some (.bool (decide p))) (g:u=some r->J c n σ M L (b.wpr rd P Q)) (f:w=some r->J c n σ M L (a.wpr rd P Q)):J c n σ M L ((Code.cond x b a).wpr rd P Q):=cdI h i (fun _=>g) (fun _=>f)
theorem zQ {f e:Code} {b:Bool} {g:Type} {u w:Option g} {r:g} (h:(if b=true then u else w)=some r) (k:ev σ x=some (.bool b)) (j:b=true->u=some r->J c n σ M L (f.wpr rd P Q)) (i:b=false->w=some r->J c n σ M L (e.wpr rd P Q)):J c n σ M L ((Code.cond x f e).wpr rd P Q):=JL k (fun a=>j a (Ji a h)) (fun a=>i a (Eh a h))
theorem AS {d:Option Tmp} {f:Op} {j e:Nat} {p:Prop} {_:Decidable p} {b:Bool} {i:Type} {u w:Option i} {r:i} (h:(if p then u else w)=some r) (g:((ops[j]?).bind (·.dst),lk σ e)=(some e,some (.bool (decide p)))) (l:p->u=some r->J c n ((e,.bool true)::σ) M L (wpList P ops Q (⟨d,f,ty,pos,aft,some (j,b)⟩::rest))) (k:¬p->w=some r->J c n ((e,.bool false)::σ) M L (wpList P ops Q (⟨d,f,ty,pos,aft,some (j,b)⟩::rest))):J c n σ M L (wpList P ops Q (⟨d,f,ty,pos,aft,some (j,b)⟩::rest)):=RG (Prod.mk.inj g).1 (Prod.mk.inj g).2 (fun a=>l a (Ji a h)) (fun a=>k a (Zv a h))
theorem dtN {ops:Array Oper} (h:J c n σ M L K):J c n σ M L (wpList P ops (Exit.then K Q) []):=h
theorem sqR {id:Nat} {l:List Oper} {z:Code} (h:J c n σ M L (wpList P l.toArray (Exit.then (z.wpr rd P Q) Q) l)) (a:l.all iI=true:=by rfl):J c n σ M L ((Code.seq (Code.region id l.toArray false) z).wpr rd P Q):=aH (aM h a)
variable {A B:Type} {ret:Unit->Value} {MO LO:Unit->List aX->List aX} {fn:Func} {C:A->Prop} {σI:A->B->Fr} {MI LI:A->B->List aX}
theorem lD {t:Tmp} (h:(ret (),fn.results,lk σ t,MO () [],LO () [],n.ds)=(v,#[.tmp t],some v,M,[],[])):J c n σ M L (fZ P fn (Lk c ret MO LO) .ret):=by
  simp only[Prod.mk.injEq]at h
  exact gE () h.1 h.2.1 (RV.tmp h.2.2.1) (h.2.2.2.1▸aS.refl _) (by rw[h.2.2.2.2.1];exact aA.nil) h.2.2.2.2.2
theorem vH {t:Tmp} (h:(ret (),fn.results,lk σ t,MO () [],LO () [],n.ds)=(v,#[.tmp t],some v,[],[],[])):J c n σ M L (fZ P fn (Lk c ret MO LO) .ret):=by
  simp only[Prod.mk.injEq]at h
  exact gE () h.1 h.2.1 (RV.tmp h.2.2.1) (by rw[h.2.2.2.1];exact aS.nil) (by rw[h.2.2.2.2.1];exact aA.nil) h.2.2.2.2.2
theorem midL {x:Code} (C:A->Prop) (σI:A->B->Fr) (MI:A->B->List aX) (e:J c n σ M L (x.wpr rd P (Exit.then (RX c n C σI MI (fun _ _=>L)) Q))) (f:∀a b,C a->J c n (σI a b) (MI a b) L K):J c n σ M L (x.wpr rd P (Exit.then K Q)):=xC C σI MI (fun _ _=>L) e f
theorem loopL {R:Type} {e:Code} (step:A->(A->Option R)->Option R) {r:R} {U:Nat} (σI:A->B->Fr) (MI:A->B->List aX) (g:A) (i:B) (h:bM step U g=some r) (l:wW σ (σI g i)) (j:aS M (MI g i)) (f:∀k a b,step a (bM step k)=some r->J c n (σI a b) (MI a b) L (e.wpr rd P (Exit.then (U_ c n step r σI MI (fun _ _=>L) k) Q))):J c n σ M L ((Code.loop e).wpr rd P Q):=Ch step σI MI (fun _ _=>L) g i h l j (aA.refl _ _) f
theorem midU {x:Code} (C:A->Prop) (σI:A->Unit->Fr) (MI:A->Unit->List aX) (e:J c n σ M L (x.wpr rd P (Exit.then (RX c n C σI MI (fun _ _=>L)) Q))) (f:∀a b,C a->J c n (σI a b) (MI a b) L K):J c n σ M L (x.wpr rd P (Exit.then K Q)):=midL C σI MI e f
theorem cL (h:J c n σ M L K):J c n σ M L (Code.skip.wpr rd P (Exit.then K Q)):=eJ h
theorem inT {id:Nat} (h:J c n σ M L K):J c n σ M L (Exit.inBlock id (Exit.then K Q) .normal):=h
theorem gH {id:Nat} {a b:Act->World->Prop} (h:J c n σ M L K):J c n σ M L ((Code.exit id).wpr rd P (Exit.then a (Exit.then b (Exit.inBlock id (Exit.then K Q))))):=qP (eL (eL (wU (zC h))))
theorem iQ (x:A) (y:B) (a:C x) (b:wW σ (σI x y)) (h:(MI x y,LI x y)=(M,L)):J c n σ M L (RX c n C σI MI LI):=bO x y a b ((Prod.mk.inj h).1▸aS.refl _) ((Prod.mk.inj h).2▸aA.refl _ _)
theorem Ah {R:Type} {step:A->(A->Option R)->Option R} {r:R} {k:Nat} (x:A) (y:B) (h:bM step k x=some r) (a:wW σ (σI x y)) (e:(MI x y,LI x y)=(M,L)):J c n σ M L (U_ c n step r σI MI LI k):=kN x y h a ((Prod.mk.inj e).1▸aS.refl _) ((Prod.mk.inj e).2▸aA.refl _ _)
theorem aG.callQ {A:Type} {ret:A->Value} {MO:A->List aX->List aX} {f:FuncId} {xs:List Operand} {vs:List Value} {a:Array TypeId} {e:List aX} {d:Option Tmp} {g:Option (Nat×Bool)} (i:aO P f) (j:aV P f vs.toArray e ret MO (fun _ l=>l)) (k:xs.map (ev σ)=vs.map some) (h:aA M L e) (b:∀x l,MO x l=MO x []++l:=by exact fun _ _=>rfl):aG P c n σ M L ⟨d,.call ⟨.value (.func f),xs.toArray,a⟩,ty,pos,aft,g⟩ ret (fun x=>MO x M) (fun _=>L):=Nq i j k h b
variable {l:List Oper} {m:List Nat} {k0:Nat} {Bs:List (Nat×List aX×List aX)} {rs:List Nat} {i:Nat}
theorem jkMove (h:(l[i]?,ev σ x,Nat.blt i k0,Nat.blt d n.sz)=(some ⟨some d,.move x,ty,pos,aft,none⟩,some v,true,true)) (k:JR c n ((d,v)::σ) M L [] ((i,[],[])::Bs) (RW P l.toArray Q (before m) (cV l) k0 rs)):JR c n σ M L [] Bs (RW P l.toArray Q (before m) (cV l) k0 (i::rs)):=by
  simp only[Prod.mk.injEq]at h
  exact bD h.1 aS.nil xT.nil (kT h.2.1) aK.z k h.2.2.1 rfl h.2.2.2
theorem jkFld [cA P] {T:TypeId} {u w j D:Nat} {z F:Value} {e:Array Field} {s E t:String} {r:Bool} {g a p:Nat} {q:TypeDesc} {b o f:Nat} (h:(l[i]?,ev σ x,cA.tab P T,e[f]?,cA.tab P g,j==0,Nat.blt i k0,Nat.blt d n.sz)=(some ⟨some d,.fieldAddr T x f,ty,pos,aft,none⟩,some (.pointer (some ⟨b,o,none⟩)),some ⟨.struct e,u,w,z⟩,some ⟨s,g,a,r,E,t,p⟩,some ⟨q,j,D,F⟩,false,true,true)) (k:JR c n ((d,.pointer (some ⟨b,o+a,none⟩))::σ) M L [] ((i,[],[])::Bs) (RW P l.toArray Q (before m) (cV l) k0 rs)):JR c n σ M L [] Bs (RW P l.toArray Q (before m) (cV l) k0 (i::rs)):=by
  simp only[Prod.mk.injEq]at h
  exact bD h.1 aS.nil xT.nil (dD h.2.1 h.2.2.1 h.2.2.2.1 h.2.2.2.2.1 h.2.2.2.2.2.1) aK.z k h.2.2.2.2.2.2.1 rfl h.2.2.2.2.2.2.2
theorem jkLd [cA P] (p:Nat) {T T':TypeId} {e f:Nat} {z:Value} {a:TypeDesc} {b o:Nat} {cs:List Value} (h:(l[i]?,ev σ x,M[p]?,cA.tab P T,uA a,cs[o]?,Nat.blt i k0,Nat.blt d n.sz)=(some ⟨some d,.load T x,ty,pos,aft,none⟩,some (.pointer (some ⟨b,o,none⟩)),some (bS b cs T'),some ⟨a,e,f,z⟩,false,some v,true,true)) (k:JR c n ((d,v)::σ) M L [] ((i,[bS b cs T'],[])::Bs) (RW P l.toArray Q (before m) (cV l) k0 rs)):JR c n σ M L [] Bs (RW P l.toArray Q (before m) (cV l) k0 (i::rs)):=by
  simp only[Prod.mk.injEq]at h
  exact bD h.1 (aS.cons p h.2.2.1 aS.nil) xT.nil (d_ 0 h.2.1 rfl h.2.2.2.1 h.2.2.2.2.1 h.2.2.2.2.2.1) aK.z k h.2.2.2.2.2.2.1 rfl h.2.2.2.2.2.2.2
theorem jkLdA [cA P] (p:Nat) {T T':TypeId} {e:Nat} {z:Value} {a:TypeDesc} {b:Nat} {cs:List Value} (h:(l[i]?,ev σ x,M[p]?,cA.tab P T,uA a,Nat.blt i k0,Nat.blt d n.sz)=(some ⟨some d,.load T x,ty,pos,aft,none⟩,some (.pointer (some ⟨b,0,none⟩)),some (bS b cs T'),some ⟨a,cs.length,e,z⟩,true,true,true)) (k:JR c n ((d,.agg cs.toArray)::σ) M L [] ((i,[bS b cs T'],[])::Bs) (RW P l.toArray Q (before m) (cV l) k0 rs)):JR c n σ M L [] Bs (RW P l.toArray Q (before m) (cV l) k0 (i::rs)):=by
  simp only[Prod.mk.injEq]at h
  exact bD h.1 (aS.cons p h.2.2.1 aS.nil) xT.nil (eF 0 h.2.1 rfl h.2.2.2.1 h.2.2.2.2.1) aK.z k h.2.2.2.2.2.1 rfl h.2.2.2.2.2.2
end
section
theorem Cu {X R:Type} {step:X->(X->Option R)->Option R} {r:R} (I:X->Prop) (c:X->Nat)
  (h:∀x d,I x->(∀a,I a->c a<c x->d a=some r)->step x d=some r):∀(fuel:Nat) (x:X),I x->c x<fuel->bM step fuel x=some r:=by
 intro fuel
 induction fuel with
 |zero=>intro x _ g;omega
 |succ k i=>
  intro x e g
  exact h x _ e fun a b f=>i a b (by omega)
def OK {R:Type} (Q:R->Prop) (o:Option R):Prop:=∃r,o=some r∧Q r
theorem Cv {X R:Type} {step:X->(X->Option R)->Option R} {Q:R->Prop} (I:X->Prop) (c:X->Nat)
  (h:∀x d,I x->(∀a,I a->c a<c x->OK Q (d a))->OK Q (step x d)):∀(fuel:Nat) (x:X),I x->c x<fuel->OK Q (bM step fuel x):=by
 intro fuel
 induction fuel with
 |zero=>intro x _ g;omega
 |succ k i=>
  intro x e g
  exact h x _ e fun a b f=>i a b (by omega)
theorem cQ {b:Type} {p:Prop} [Decidable p] (a:p) (x:Option b):ck p x=x:=if_pos a
theorem wr {x:Int} (a : -9223372036854775808<=x) (b:x<=9223372036854775807):wI .i64 x=x:=if_pos ⟨a,b⟩
theorem aZ {a b:Type} {x:Option a} {y:a} {f:a->Option b} (h:x=some y):x.bind f=f y:=by rw[h];rfl
theorem Zd {a:Type} (l r:List a) (x y:a) (i:Nat) (h:l.length=i):(l++x::r).set i y=l++y::r:=by
 rw[List.set_append_right _ _ (by omega)];simp[<-h]
theorem IQ {a:Type} [Inhabited a] (l r:List a) (x:a) (i:Nat) (h:l.length=i):at' (l++x::r) (i:Int)=x:=by
 rw[gG,List.getD_eq_getElem?_getD,List.getElem?_append_right (by omega)];simp[<-h]
end
end Go.Sx
end
