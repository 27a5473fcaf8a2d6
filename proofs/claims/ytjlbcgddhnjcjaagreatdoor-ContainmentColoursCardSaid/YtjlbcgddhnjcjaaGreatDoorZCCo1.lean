/- Models and proofs. Conditions: none. -/
import Derived.WalkKit
import Derived.RangeFuncRecord
import Derived.OrdersIn
import Derived.TacticsIn
import Derived.DefersIn
import Derived.Test.YtjlbcgddhnjcjaaGreatDoorProg
import Derived.Deep.AppendSrc
import Derived.Test.YtjlbcgddhnjcjaaGreatDoorRows
import Derived.ProofKit
import Derived.Deep.Slices
import Derived.Lib.SmallJoins
set_option linter.unusedVariables false
set_option linter.unusedSimpArgs false
set_option maxHeartbeats 4000000
set_option maxRecDepth 20000
section
namespace Go.Sx
open Go.RowKit
section
def FR (r:Option Nat):Fence:={Fence.wide with round:=r}
theorem Jv (P:Program) (r:Option Nat):Machine.fenced P (FR r)=Machine.fenced P Fence.wide:=rfl
theorem Po (r:Option Nat) (n:Nat):(FR r).room n:=fun _ h=>by cases h
theorem PO {r:Option Nat} {n:Nat} {P:Program} {f:FuncId} {args:Array Value} {w:World} {R:Ending->World->Prop} (h:Calls P f args w R):CallsIn (FR r) n P f args w R:=
 ⟨trivial,fun cs _=>let ⟨e,w',fr,hr,s,x⟩:=h cs;⟨e,w',fr,hr,(Jv P r▸comesIn_wide.2 s),x⟩⟩
theorem Mz {r:Option Nat} {n:Nat} {P:Program} {f:FuncId} {args:Array Value} {w:World} {R:Ending->World->Prop} (h:CallsIn (FR r) n P f args w R):Calls P f args w R:=
 fun cs=>let ⟨e,w',fr,hr,s,x⟩:=h.2 cs (Po r _);⟨e,w',fr,hr,ComesIn.comes s,x⟩
def _root_.Go.Code.wpr (r:Option Nat) (P:Program) (c:Code) (Q:Exit->Act->World->Prop) (a:Act) (w:World):Prop:=c.wpIn (FR r) 0 P Q a w
section
variable {r:Option Nat} {P:Program} {Q:Exit->Act->World->Prop} {a:Act} {w:World}
theorem Fp {c:Code} {b:Exit->Act->World->Prop} (d:∀e a w,Q e a w->b e a w) (h:c.wpr r P Q a w):c.wpr r P b a w:=Code.wpIn_mono d h
theorem QU {x y:Code} (h:x.wpr r P (Exit.then (y.wpr r P Q) Q) a w):(Code.seq x y).wpr r P Q a w:=wpIn_seq h
theorem Ks {id:Nat} {x:Code} (h:x.wpr r P (Exit.inBlock id Q) a w):(Code.block id x).wpr r P Q a w:=wpIn_block h
theorem NQ (h:Q .normal a w):Code.skip.wpr r P Q a w:=wpIn_skip h
theorem NP {id:Nat} (h:Q (.exit id) a w):(Code.exit id).wpr r P Q a w:=wpIn_exit h
theorem QT (h:Q .ret a w):Code.ret.wpr r P Q a w:=wpIn_ret h
theorem CJ {x:Operand} {d c:Code} {b:Bool} (hc:a.eval x = .bool b) (f:b=true->d.wpr r P Q a w) (e:b=false->c.wpr r P Q a w):(Code.cond x d c).wpr r P Q a w:=wpIn_cond_split hc f e

def _root_.Go.Oper.rnd (P:Program) (o:Oper) (a:Act) (w:World) (K:Act->World->Prop):Prop:=
 ∃l f d b c w',(execOp a.eval o).run P w = .ok (.round l f d b c) w'∧RoundIn (FR none) 0 P l f d b c w' fun e g=>∃v,e = .returned v∧K (a.put o.dst v) g
theorem _root_.Go.Oper.rnd_mono {o:Oper} {K g:Act->World->Prop} (m:∀a w,K a w->g a w) (h:o.rnd P a w K):o.rnd P a w g:=by
 obtain⟨l,f,d,b,c,w',i,j⟩:=h
 exact⟨l,f,d,b,c,w',i,j.mono fun e p ⟨v,k,n⟩=>⟨v,k,m _ _ n⟩⟩
def iS (o:Oper):Bool:=match o.op with|.defer _=>false|_=>true
theorem Ve {o:Oper} (h:iS o=true) (r:Option Nat) (ρ:Operand->Value):o.semAt r ρ=execOp ρ o:=
 Oper.semAt_eq r ρ o fun c hc=>by unfold iS at h;rw[hc]at h;cases h
theorem Z_ {n:Nat} {b:String} {args:Array Value} {R:Value->World->Prop} (h:Rows P b args w R):RowsIn (FR r) n P b args w R:=fun c cs _=>
 let ⟨v,w',hr,s⟩:=h c cs;⟨v,w',hr,(Jv P r▸stepsIn_wide.2 s)⟩
theorem Yz {o:Oper} {K:Act->World->Prop} (q:iS o=true) (h:o.wp P a w K Q∨o.rnd P a w K):o.wpIn (FR r) 0 P a w K Q:=by
 refine⟨fun _ _=>trivial,?_⟩
 rw[Ve q]
 rcases h with h|h
 ·unfold Oper.wp at h
  cases k:(execOp a.eval o).run P w with
  | ok x w' =>
   rw[k]at h
   cases x with
   |value v=>exact h
   |skip=>exact h
   |defer d=>exact h
   |enter f args=>
    refine⟨(fun hc=>by cases hc),(PO h).mono ?_⟩
    intro e b i
    cases e<;>exact i
   |row rw args=>exact⟨(fun hc=>by cases hc),Z_ h⟩
   |_=>exact h.elim
  |halt x w'=>
   rw[k]at h
   cases x<;>first|exact h|exact h.elim
 ·obtain⟨l,f,m,g,j,w',n,p⟩:=h
  rw[n]
  refine⟨(fun hc=>by cases hc),?_⟩
  exact⟨trivial,fun c cs _=>by
   obtain⟨e,b,⟨v,i,t⟩,s⟩:=p.2 c cs (Po none _)
   subst i
   exact⟨.returned v,b,t,s⟩⟩
end
def wpList (P:Program) (ops:Array Oper) (Q:Exit->Act->World->Prop):List Oper->Act->World->Prop
 | [],a,w=>Q .normal a w
 |o::rest,a,w=>
  if Region.wanted o (yielded ops a.tmps)then o.wp P a w (wpList P ops Q rest) Q∨o.rnd P a w (wpList P ops Q rest)else wpList P ops Q rest (a.put o.dst undef) w
theorem wpList_in {r:Option Nat} {P:Program} {ops:Array Oper} {Q:Exit->Act->World->Prop}:∀(l:List Oper) (a:Act) (w:World),l.all iS=true->wpList P ops Q l a w->wpListIn (FR r) 0 P ops Q l a w
 | [],_,_,_,h=>h
 | o :: rest, a, w, hd, h => by
  simp only[List.all_cons,Bool.and_eq_true]at hd
  unfold wpList at h
  unfold wpListIn
  by_cases b:Region.wanted o (yielded ops a.tmps)=true
  ·rw[if_pos b]at h ⊢
   refine Yz hd.1 ?_
   rcases h with h|h
   ·exact .inl (Oper.wp_mono (fun a w h=>wpList_in rest a w hd.2 h) h)
   ·exact .inr (Oper.rnd_mono (fun a w h=>wpList_in rest a w hd.2 h) h)
  ·rw[if_neg b]at h ⊢
   exact⟨fun _ _=>trivial,wpList_in rest _ w hd.2 h⟩
theorem rK {r:Option Nat} {P:Program} {Q:Exit->Act->World->Prop} {a:Act} {w:World} {id:Nat} {l:List Oper} (b:l.all iS=true) (h:wpList P l.toArray Q l a w):(Code.region id l.toArray false).wpr r P Q a w:=
 wpIn_region_lit (wpList_in l a w b h)

def wpOp (P:Program) (ops:Array Oper) (Q:Exit->Act->World->Prop) (i:Nat) (K:Act->World->Prop) (a:Act) (w:World):Prop:=
 match ops[i]? with
 |none=>K a w
 |some o=>if Region.wanted o (yielded ops a.tmps)then o.wp P a w K Q∨o.rnd P a w K else K (a.put o.dst undef) w
def Jc (P:Program) (ops:Array Oper) (Q:Exit->Act->World->Prop):List Nat->Act->World->Prop
 | [],a,w=>Q .normal a w
 |i::rest,a,w=>wpOp P ops Q i (Jc P ops Q rest) a w
theorem Pm {P:Program} {ops:Array Oper} {Q:Exit->Act->World->Prop} (i:Nat) (rest:List Nat) (a:Act) (w:World):Jc P ops Q (i::rest) a w=wpOp P ops Q i (Jc P ops Q rest) a w:=rfl
def wpAny (P:Program) (b:Region.Mode) (ops:Array Oper) (Q:Exit->Act->World->Prop):Nat->Array Bool->Act->World->Prop
 |0,listed,a,w=>Region.ready b ops listed=[]∧Q .normal a w
 |fuel+1,listed,a,w=>
  (Region.ready b ops listed=[]->Q .normal a w)∧
  ∀i∈Region.ready b ops listed,wpOp P ops Q i (wpAny P b ops Q fuel (listed.setIfInBounds i true)) a w
section
variable {r:Option Nat} {P:Program} {ops:Array Oper} {Q:Exit->Act->World->Prop}
theorem QS {i:Nat} {K d:Act->World->Prop} {a:Act} {w:World} (f:∀o,ops[i]? = some o->iS o=true) (b:∀a w,K a w->d a w) (h:wpOp P ops Q i K a w):wpOpIn (FR r) 0 P ops Q i d a w:=by
 unfold wpOp at h
 unfold wpOpIn
 cases c:ops[i]? with
 |none=>rw[c]at h;exact b _ _ h
 | some o =>
  rw[c]at h
  dsimp only at h ⊢
  by_cases e:Region.wanted o (yielded ops a.tmps)=true
  ·rw[if_pos e]at h ⊢
   refine Yz (f o c) ?_
   rcases h with h|h
   ·exact .inl (Oper.wp_mono b h)
   ·exact .inr (Oper.rnd_mono b h)
  ·rw[if_neg e]at h ⊢
   exact⟨fun _ _=>trivial,b _ _ h⟩
theorem NN (b:∀(i:Nat) (o:Oper),ops[i]? = some o->iS o=true):∀(s:List Nat) (a:Act) (w:World),Jc P ops Q s a w->wpOpsIn (FR r) 0 P ops Q s a w
 | [],_,_,h=>h
 |i::rest,a,w,h=>by
  rw[wpOpsIn_cons]
  exact QS (b i) (fun a w h=>NN b rest a w h) h
theorem NM {d:Region.Mode} (c:∀(i:Nat) (o:Oper),ops[i]? = some o->iS o=true):∀(fuel:Nat) (b:Array Bool) (a:Act) (w:World),wpAny P d ops Q fuel b a w->wpAnyIn (FR r) 0 P d ops Q fuel b a w
 |0,_,_,_,h=>h
 |fuel+1,b,a,w,h=>⟨h.1,fun i e=>QS (c i) (fun a w h=>NM c fuel _ a w h) (h.2 i e)⟩
theorem Gw {l:List Oper} (h:l.all iS=true) (i:Nat) (o:Oper) (a:l.toArray[i]? = some o):iS o=true:=by
 have b:o∈l:=by
  rw[List.getElem?_toArray]at a
  exact List.mem_of_getElem? a
 exact List.all_eq_true.1 h o b
theorem CK {id:Nat} {l:List Oper} {a:Act} {w:World} (b:l.all iS=true) (c:P.follows .mixedOrders=true)
  (h:wpAny P .any l.toArray Q l.toArray.size (Array.replicate l.toArray.size false) a {w with drawn:=w.drawn+1}):(Code.region id l.toArray true).wpr r P Q a w:=
 wpIn_region_any c (NM (Gw b) _ _ _ _ h)
theorem GW {id:Nat} {l:List Oper} {a:Act} {w:World} (b:l.all iS=true)
  (h:∀t,Jc P l.toArray Q (Region.schedule (P.follows .mixedOrders) l.toArray t) a {w with drawn:=w.drawn+1}):(Code.region id l.toArray true).wpr r P Q a w:=
 wpIn_region_draw fun t=>NN (Gw b) _ _ _ (h t)
end

def fV (P:Program) (fn:Func) (R:Ending->World->Prop):Exit->Act->World->Prop:=bodyPostM (FR none) 0 P fn R
theorem rM {P:Program} {f:FuncId} {fn:Func} {c:Code} {args:Array Value} {w:World} {R:Ending->World->Prop} (b:P.funcs[f]? = some fn) (a:fn.body=some c)
  (h:c.wpr none P (fV P fn R) {tmps:=args++Array.replicate (fn.ntmps - args.size) undef,defers:=[]} w):Calls P f args w R:=
 Mz (r:=none) (callsIn_of_wp_marks b a trivial h)
theorem body_end {P:Program} {fn:Func} {R:Ending->World->Prop} {a:Act} {w:World} {v:Value} {e:Exit} (f:e = .ret∨e = .normal) (c:a.defers=[]) (d:(results fn a.tmps).run P w = .ok v w) (b:R (.returned v) w):fV P fn R e a w:=by
 rcases f with rfl|rfl
 ·show LeavesInM (FR none) 0 P fn a.tmps R a.defers .returning w
  rw[c];exact⟨v,d,b⟩
 ·show LeavesInM (FR none) 0 P fn a.tmps R a.defers .returning w
  rw[c];exact⟨v,d,b⟩
theorem Rh {P:Program} {fn:Func} {R:Ending->World->Prop} {a:Act} {w:World} {e:Exit} {D:Nat} {c:List Deferred} (g:e = .ret∨e = .normal) (f:a.defers={target:= .collected D,args:= #[]}::c) (d:w.heap[D]? = some (.deferred (some [])))
  (h:LeavesInM (FR none) 0 P fn a.tmps R c .returning (w.putObj D (.deferred none))):fV P fn R e a w:=by
 have b:LeavesInM (FR none) 0 P fn a.tmps R a.defers .returning w:=by
  rw[f]
  exact⟨(fun hc=>by cases hc),.inl ⟨D,_,rfl,run_takeDeferred d,h⟩⟩
 rcases g with rfl|rfl<;>exact b
end
section

abbrev Fr:=List (Nat×Value)
def lk:Fr->Nat->Option Value
 | [],_=>none
 |(k,v)::r,t=>bif Nat.beq t k then some v else lk r t
def ev (σ:Fr):Operand->Option Value
 | .tmp t=>lk σ t
 | .const v=>some v
 | .global g=>some (.pointer (some ⟨g,0,none⟩))
 | .func f=>some (.func (.func f) #[] #[])
structure Sz where
 sz:Nat
 ds:List Deferred
structure DT (n:Sz) (σ:Fr) (a:Act):Prop where
 defers:a.defers=n.ds
 size:a.tmps.size=n.sz
 slot:∀t v,lk σ t=some v->a.tmps[t]? = some v
theorem DT.eval {n:Sz} {σ:Fr} {a:Act} (h:DT n σ a) {x:Operand} {v:Value} (b:ev σ x=some v):a.eval x=v:=by
 cases x with
 |tmp t=>simp only[ev]at b;have:=h.slot t v b;simp[Act.eval,this]
 |const u=>simpa [ev,Act.eval]using b
 |global g=>simpa [ev,Act.eval]using b
 |func f=>simpa [ev,Act.eval]using b
theorem lY {t d:Nat} (e:t≠d):Nat.beq t d=false:=by
 cases h:Nat.beq t d with
 |false=>rfl
 |true=>exact absurd (Nat.eq_of_beq_eq_true h) e
theorem DT.put {n:Sz} {σ:Fr} {a:Act} (h:DT n σ a) (d:Nat) (v:Value) (f:Nat.blt d n.sz=true):DT n ((d,v)::σ) (a.put (some d) v):=by
 have c:d<n.sz:=by simpa [Nat.blt_eq]using f
 refine⟨h.defers,by simp[Act.put,h.size],fun t u b=> ?_⟩
 simp only[lk]at b
 by_cases e:t=d
 ·subst e
  simp at b
  subst b
  simp[Act.put,h.size,c]
 ·rw[lY e]at b
  simp only[cond_false]at b
  simp only[Act.put]
  rw[Array.getElem?_setIfInBounds_ne (Ne.symm e)]
  exact h.slot t u b
def xJ (σ a:Fr):Prop:=∀t v,lk a t=some v->lk σ t=some v
theorem xJ.nil {σ:Fr}:xJ σ []:=fun _ _ h=>by simp[lk]at h
theorem xJ.refl (σ:Fr):xJ σ σ:=fun _ _ h=>h
theorem xJ.cons {σ b:Fr} {t:Nat} {v:Value} (h:lk σ t=some v) (r:xJ σ b):xJ σ ((t,v)::b):=by
 intro u x a
 simp only[lk]at a
 by_cases e:u=t
 ·subst e;simp at a;subst a;exact h
 ·rw[lY e]at a;exact r u x a
theorem DT.weak {n:Sz} {σ b:Fr} {a:Act} (h:DT n σ a) (c:xJ σ b):DT n b a:=
 ⟨h.defers,h.size,fun t v d=>h.slot t v (c t v d)⟩
theorem SF {σ a:Fr} (h:xJ σ a:=by repeat (first|exact xJ.nil|refine xJ.cons rfl ?_)):xJ σ a:=h

structure aX where
 p:World->(Nat->Prop)->Prop
 mono:∀{w w':World} {S S':Nat->Prop},p w S->(∀k,S k->k<w.heap.size->S' k∧w'.heap[k]? = w.heap[k]?)->p w' S'
structure tE where
 w0:World
 S0:Nat->Prop
 O:Nat->Prop:=fun _=>False
def tE.mine (c:tE) (k:Nat):Prop:=c.w0.heap.size<=k∨c.O k
def tE.all (c:tE) (k:Nat):Prop:=c.S0 k∨c.mine k
abbrev Kw (w w':World):Prop:=Below w.heap.size w w'
structure AC (O:Nat->Prop) (w w':World):Prop where
 os:w'.os=w.os
 tape:w'.tape=w.tape
 output:w'.output=w.output
 size:w.heap.size<=w'.heap.size
 block:∀k,k<w.heap.size->¬O k->w'.heap[k]? = w.heap[k]?
theorem AC.refl {O:Nat->Prop} (w:World):AC O w w:=⟨rfl,rfl,rfl,Nat.le_refl _,fun _ _ _=>rfl⟩
theorem AC.trans {O:Nat->Prop} {a b c:World} (h:AC O a b) (k:Kw b c):AC O a c:=
 ⟨k.os.trans h.os,k.tape.trans h.tape,k.output.trans h.output,Nat.le_trans h.size k.size,fun i d e=>(k.block i (Nat.lt_of_lt_of_le d h.size)).trans (h.block i d e)⟩
theorem AC.ext {w w':World} (h:AC (fun _=>False) w w'):Kw w w':=⟨h.os,h.tape,h.output,h.size,fun k a=>h.block k a id⟩
structure Yd (c:tE) (w:World) (M:List aX) (F:Nat->Nat->Prop):Prop where
 res:∀(i:Nat) (m:aX),M[i]? = some m->m.p w (F i)
 rng:∀i k,F i k->c.mine k∧k<w.heap.size
 dis:∀i j k,F i k->F j k->i=j
def De (c:tE) (F:Nat->Nat->Prop) (k:Nat):Prop:=c.all k∧∀i,¬F i k
structure St (c:tE) (M L:List aX) (w:World):Prop where
 old:AC c.O c.w0 w
 own:∃F:Nat->Nat->Prop,Yd c w M F∧∀f∈L,f.p w (De c F)
theorem aX.same {f:aX} {w w':World} {S a:Nat->Prop} (h:f.p w S) (c:∀k,S k->a k) (e:∀k,S k->k<w.heap.size->w'.heap[k]? = w.heap[k]?):f.p w' a:=
 f.mono h fun k b d=>⟨c k b,e k b d⟩
theorem St.ext {c:tE} {M L:List aX} {w w':World} (h:St c M L w) (e:Kw w w'):St c M L w':=by
 obtain⟨n,F,a,g⟩:=h
 refine⟨n.trans e,F,⟨fun i m l=>aX.same (a.res i m l) (fun _ h=>h) (fun k _ b=>e.block k b),fun i k d=>⟨(a.rng i k d).1,Nat.lt_of_lt_of_le (a.rng i k d).2 e.size⟩,a.dis⟩,
  fun f j=>aX.same (g f j) (fun _ h=>h) (fun k _ b=>e.block k b)⟩

def aR (M M':List aX):Prop:=∃g:Nat->Nat,(∀i j,i<M'.length->j<M'.length->g i=g j->i=j)∧∀(i:Nat) (m:aX),M'[i]? = some m->M[g i]? = some m
theorem aR.refl (M:List aX):aR M M:=⟨id,fun _ _ _ _ h=>h,fun _ _ h=>h⟩
theorem aR.nil {M:List aX}:aR M []:=⟨id,fun _ _ h=>by simp at h,fun _ _ h=>by simp at h⟩
theorem aR.cons {M M':List aX} (i:Nat) {m:aX} (h:M[i]? = some m) (r:aR (M.eraseIdx i) M'):aR M (m::M'):=by
 obtain⟨g,o,p⟩:=r
 let e:Nat->Nat:=fun j=>match j with|0=>i|j+1=>if g j<i then g j else g j+1
 have s:i<M.length:=by
  rcases Nat.lt_or_ge i M.length with k|k
  ·exact k
  ·rw[List.getElem?_eq_none k]at h;cases h
 refine⟨e,?_,?_⟩
 ·intro a b l n c
  cases a with
  |zero=>
   cases b with
   |zero=>rfl
   |succ b=>simp only[e]at c;split at c<;>omega
  | succ a =>
   cases b with
   |zero=>simp only[e]at c;split at c<;>omega
   |succ b=>
    simp only[List.length_cons]at l n
    have:g a=g b:=by simp only[e]at c;split at c<;>split at c<;>omega
    have:=o a b (by omega) (by omega) this
    omega
 ·intro j q f
  cases j with
  |zero=>simp at f;subst f;exact h
  |succ j=>
   simp only[List.getElem?_cons_succ]at f
   have:=p j q f
   rw[List.getElem?_eraseIdx]at this
   simp only[e]
   split
   ·rename_i d;rwa[if_pos d]at this
   ·rename_i d;rwa[if_neg d]at this
theorem St.weak {c:tE} {M L M' L':List aX} {w:World} (h:St c M L w) (q:aR M M') (p:∀f∈L',f∈L):St c M' L' w:=by
 obtain⟨u,F,e,r⟩:=h
 obtain⟨g,s,t⟩:=q
 refine⟨u,fun i k=>i<M'.length∧F (g i) k,⟨fun i m a=> ?_,fun i k b=>e.rng _ k b.2,fun i j k a o=>s i j a.1 o.1 (e.dis _ _ k a.2 o.2)⟩,fun f l=> ?_⟩
 ·have n:i<M'.length:=by
   rcases Nat.lt_or_ge i M'.length with d|d
   ·exact d
   ·rw[List.getElem?_eq_none d]at a;cases a
  exact aX.same (e.res _ m (t i m a)) (fun k b=>⟨n,b⟩) (fun _ _ _=>rfl)
 ·exact aX.same (r f (p f l)) (fun k b=>⟨b.1,fun i a=>b.2 _ a.2⟩) (fun _ _ _=>rfl)
def yK (L L':List aX):Prop:=∀f∈L',f∈L
theorem yK.nil {L:List aX}:yK L []:=fun _ h=>by simp at h
theorem yK.cons {L L':List aX} {f:aX} (h:f∈L) (r:yK L L'):yK L (f::L'):=fun g a=>by
 rcases List.mem_cons.1 a with rfl|a
 ·exact h
 ·exact r g a

def J (c:tE) (n:Sz) (σ:Fr) (M L:List aX) (G:Act->World->Prop):Prop:=∀a w,DT n σ a->St c M L w->G a w
section rules
variable {P:Program} {rd:Option Nat} {c:tE} {n:Sz} {σ σ':Fr} {M M' L L':List aX} {G G':Act->World->Prop} {Q:Exit->Act->World->Prop}
theorem SD (h:J c n σ M L G) (g:∀a w,G a w->G' a w):J c n σ M L G':=fun a w s t=>g a w (h a w s t)
theorem YE (h:J c n σ' M' L' G) (e:xJ σ σ') (d:aR M M') (b:∀f∈L',f∈L):J c n σ M L G:=
 fun a w s t=>h a w (s.weak e) (t.weak d b)
theorem aG {x y:Code} (h:J c n σ M L (x.wpr rd P (Exit.then (y.wpr rd P Q) Q))):J c n σ M L ((Code.seq x y).wpr rd P Q):=fun a w s t=>QU (h a w s t)
theorem aN {id:Nat} {x:Code} (h:J c n σ M L (x.wpr rd P (Exit.inBlock id Q))):J c n σ M L ((Code.block id x).wpr rd P Q):=fun a w s t=>Ks (h a w s t)
theorem dQ (h:J c n σ M L (Q .normal)):J c n σ M L (Code.skip.wpr rd P Q):=fun a w s t=>NQ (h a w s t)
theorem oK {id:Nat} (h:J c n σ M L (Q (.exit id))):J c n σ M L ((Code.exit id).wpr rd P Q):=fun a w s t=>NP (h a w s t)
theorem aQ (h:J c n σ M L (Q .ret)):J c n σ M L (Code.ret.wpr rd P Q):=fun a w s t=>QT (h a w s t)
theorem Ky {x:Operand} {e d:Code} {b:Bool} (i:ev σ x=some (.bool b)) (g:b=true->J c n σ M L (e.wpr rd P Q)) (f:b=false->J c n σ M L (d.wpr rd P Q)):
  J c n σ M L ((Code.cond x e d).wpr rd P Q):=fun a w s t=>CJ (s.eval i) (fun h=>g h a w s t) (fun h=>f h a w s t)
theorem Pq {x:Operand} {a b:Code} (d:ev σ x=some (.bool true)) (h:J c n σ M L (a.wpr rd P Q)):J c n σ M L ((Code.cond x a b).wpr rd P Q):=Ky d (fun _=>h) (fun h=>by cases h)
theorem CM {x:Operand} {d a:Code} (b:ev σ x=some (.bool false)) (h:J c n σ M L (a.wpr rd P Q)):J c n σ M L ((Code.cond x d a).wpr rd P Q):=Ky b (fun h=>by cases h) (fun _=>h)
theorem aM {id:Nat} {l:List Oper} (h:J c n σ M L (wpList P l.toArray Q l)) (b:l.all iS=true:=by rfl):J c n σ M L ((Code.region id l.toArray false).wpr rd P Q):=fun a w s t=>rK b (h a w s t)
theorem dN {ops:Array Oper} (h:J c n σ M L (Q .normal)):J c n σ M L (wpList P ops Q []):=h

variable {K:Act->World->Prop}
theorem wR (h:J c n σ M L K):J c n σ M L (Exit.then K Q .normal):=h
theorem dJ {id:Nat} (h:J c n σ M L (Q (.exit id))):J c n σ M L (Exit.then K Q (.exit id)):=h
theorem aJ (h:J c n σ M L (Q .ret)):J c n σ M L (Exit.then K Q .ret):=h
theorem LQ {id:Nat} (h:J c n σ M L (Q .normal)):J c n σ M L (Exit.inBlock id Q .normal):=h
theorem bQ {id:Nat} (h:J c n σ M L (Q .ret)):J c n σ M L (Exit.inBlock id Q .ret):=h
theorem uF {id:Nat} (h:J c n σ M L (Q .normal)):J c n σ M L (Exit.inBlock id Q (.exit id)):=fun a w s t=>by
 simp only[Exit.inBlock,if_true];exact h a w s t
theorem Pr {id b:Nat} (e:Nat.beq b id=false) (h:J c n σ M L (Q (.exit b))):J c n σ M L (Exit.inBlock id Q (.exit b)):=fun a w s t=>by
 have:b≠id:=fun h=>by subst h;simp at e
 simp only[Exit.inBlock,if_neg this];exact h a w s t

def Inv {X:Type} (c:tE) (n:Sz) (C:X->Prop) (b:X->Fr) (e d:X->List aX) (f:X->Nat) (m:Nat) (a:Act) (w:World):Prop:=
 ∃x,C x∧f x<m∧DT n (b x) a∧St c (e x) (d x) w
theorem SC {X:Type} {d:Code} (C:X->Prop) (o:X->Fr) (D B:X->List aX) (F:X->Nat) (A:X) (W:C A)
  (S:xJ σ (o A)) (hM:aR M (D A)) (Z:∀f∈B A,f∈L)
  (r:∀x,C x->J c n (o x) (D x) (B x) (d.wpr rd P (Exit.then (Inv c n C o D B F (F x)) Q))):J c n σ M L ((Code.loop d).wpr rd P Q):=by
 intro a w s t b k cs R I O
 have V:∀m x a w,F x=m->C x->DT n (o x) a->St c (D x) (B x) w->
   ∃e E w',Q e E w'∧ArrivesIn (Machine.fenced P (FR rd)) P (lone (b.atR a (.code d :: .inLoop d::k)) cs w) b k cs e E w':=by
  intro m
  induction m using Nat.strongRecOn with
  | _ m ih =>
   intro x a w hm Y S ht
   obtain⟨e,h,i,p,g⟩:=r x Y a w S ht b (.inLoop d::k) cs R I O
   cases e with
   |normal=>
    obtain⟨y,H,N,T,U⟩:=p
    obtain⟨v,u,z,q,j⟩:=ih (F y) (hm▸N) y h i rfl H T U
    exact⟨v,u,z,q,.of_steps (StepsIn.trans g (.one (fenced_calm I O rfl) stepR_inLoop)) j⟩
   |exit id=>exact⟨_,h,i,p,.pass (x:= .inLoop d) rfl (fun _ _=> .inl (by simp)) g⟩
   |goto l=>exact⟨_,h,i,p,.pass (x:= .inLoop d) rfl (fun _ _=> .inl (by simp)) g⟩
   |ret=>exact⟨_,h,i,p,.pass (x:= .inLoop d) rfl (fun _ _=> .inl (by simp)) g⟩
   |panic ch=>exact⟨_,h,i,p,.pass (x:= .inLoop d) rfl (fun _ _=> .inl (by simp)) g⟩
   |outgrown=>exact⟨_,h,i,p,.pass (x:= .inLoop d) rfl (fun _ _=> .inl (by simp)) g⟩
 obtain⟨e,E,w',p,g⟩:=V _ A a w rfl W (s.weak S) (t.weak hM Z)
 exact⟨e,E,w',p,.of_steps (.one (fenced_calm I O rfl) stepR_loop) g⟩


def Y (P:Program) (c:tE) (n:Sz) (σ:Fr) (M L:List aX) (o:Oper) (v:Value):Prop:=
 ∀a w,DT n σ a->St c M L w->(execOp a.eval o).run P w = .ok (.value v) w
theorem lO {ops:Array Oper} {rest:List Oper} {o:Oper} {a:Act} {w:World} (b:Region.wanted o (yielded ops a.tmps)=true)
  (h:o.wp P a w (wpList P ops Q rest) Q):wpList P ops Q (o::rest) a w:=by
 unfold wpList;rw[if_pos b];exact .inl h
theorem aA {ops:Array Oper} {rest:List Oper} {d:Nat} {b:Op} {ty:TypeId} {pos:String} {aft:Array Edge} {v:Value}
  (f:Y P c n σ M L ⟨some d,b,ty,pos,aft,none⟩ v) (e:Nat.blt d n.sz=true) (h:J c n ((d,v)::σ) M L (wpList P ops Q rest)):
  J c n σ M L (wpList P ops Q (⟨some d,b,ty,pos,aft,none⟩::rest)):=fun a w s t=>
 lO rfl (by simp only[Oper.wp,f a w s t,Oper.upon];exact h _ w (s.put d v e) t)
def gv (ops:Array Oper) (σ:Fr) (j:Nat):Option Bool:=
 match ((ops[j]?).bind (·.dst)).bind (lk σ)with
 |some (.bool b)=>some b
 |_=>none
theorem wH {ops:Array Oper} {j:Nat} {b:Bool} {a:Act} (s:DT n σ a) (h:gv ops σ j=some b):yielded ops a.tmps j=some b:=by
 unfold gv at h
 unfold yielded
 cases f:(ops[j]?).bind (·.dst)with
 |none=>simp[f]at h
 | some d =>
  simp only[f,Option.bind_some]at h ⊢
  cases e:lk σ d with
  |none=>simp[e]at h
  |some v=>
   rw[s.slot d v e]
   rw[e]at h
   cases v<;>first|exact h|cases h
theorem aS {ops:Array Oper} {rest:List Oper} {d:Nat} {e:Op} {ty:TypeId} {pos:String} {aft:Array Edge} {j:Nat} {b:Bool} {v:Value}
  (g:gv ops σ j=some b) (i:Y P c n σ M L ⟨some d,e,ty,pos,aft,some (j,b)⟩ v) (f:Nat.blt d n.sz=true) (h:J c n ((d,v)::σ) M L (wpList P ops Q rest)):
  J c n σ M L (wpList P ops Q (⟨some d,e,ty,pos,aft,some (j,b)⟩::rest)):=fun a w s t=>
 lO (by simp[Region.wanted,wH s g]) (by simp only[Oper.wp,i a w s t,Oper.upon];exact h _ w (s.put d v f) t)
theorem SB {ops:Array Oper} {rest:List Oper} {d:Nat} {k:Op} {ty:TypeId} {pos:String} {aft:Array Edge} {j:Nat} {b e:Bool}
  (i:gv ops σ j=some e) (f:(e==b)=false) (g:Nat.blt d n.sz=true) (h:J c n ((d,undef)::σ) M L (wpList P ops Q rest)):
  J c n σ M L (wpList P ops Q (⟨some d,k,ty,pos,aft,some (j,b)⟩::rest)):=fun a w s t=>by
 unfold wpList
 rw[if_neg (by simp[Region.wanted,wH s i,f])]
 exact h _ w (s.put d undef g) t
theorem DT.over {n:Sz} {σ:Fr} {a:Act} (h:DT n σ a) {d:Nat} {v:Value} (f:a.tmps[d]? = some v):DT n ((d,v)::σ) a:=
 ⟨h.defers,h.size,fun t u b=>by
  simp only[lk]at b
  by_cases e:t=d
  ·subst e;simp at b;subst b;exact f
  ·rw[lY e]at b;exact h.slot t u b⟩
theorem zX {ops:Array Oper} {rest:List Oper} {d:Option Tmp} {g:Op} {ty:TypeId} {pos:String} {aft:Array Edge} {j f:Nat} {e b:Bool}
  (_:(ops[j]?).bind (·.dst)=some f) (h:lk σ f=some (.bool e)) (k:e=true->J c n ((f,.bool true)::σ) M L (wpList P ops Q (⟨d,g,ty,pos,aft,some (j,b)⟩::rest)))
  (i:e=false->J c n ((f,.bool false)::σ) M L (wpList P ops Q (⟨d,g,ty,pos,aft,some (j,b)⟩::rest))):
  J c n σ M L (wpList P ops Q (⟨d,g,ty,pos,aft,some (j,b)⟩::rest)):=by
 cases e
 ·exact fun a w s t=>i rfl a w (s.over (s.slot _ _ h)) t
 ·exact fun a w s t=>k rfl a w (s.over (s.slot _ _ h)) t
theorem SA {ops:Array Oper} {rest:List Oper} {d:Option Tmp} {e:Op} {ty:TypeId} {pos:String} {aft:Array Edge} {j a:Nat} {p:Prop} {_:Decidable p} {b:Bool}
  (f:(ops[j]?).bind (·.dst)=some a) (i:lk σ a=some (.bool (decide p))) (k:p->J c n ((a,.bool true)::σ) M L (wpList P ops Q (⟨d,e,ty,pos,aft,some (j,b)⟩::rest)))
  (g:¬p->J c n ((a,.bool false)::σ) M L (wpList P ops Q (⟨d,e,ty,pos,aft,some (j,b)⟩::rest))):
  J c n σ M L (wpList P ops Q (⟨d,e,ty,pos,aft,some (j,b)⟩::rest)):=
 zX f i (fun h=>k (of_decide_eq_true h)) (fun h=>g (of_decide_eq_false h))
theorem VY {x:Operand} {b a:Code} {p:Prop} {_:Decidable p} (f:ev σ x=some (.bool (decide p))) (e:p->J c n σ M L (b.wpr rd P Q)) (d:¬p->J c n σ M L (a.wpr rd P Q)):
  J c n σ M L ((Code.cond x b a).wpr rd P Q):=Ky f (fun h=>e (of_decide_eq_true h)) (fun h=>d (of_decide_eq_false h))
end rules
end
section

structure Ty where
 desc:TypeDesc
 size:Nat
 bytes:Nat
 zero:Value
structure qW (P:Program) (T:Nat) (d:Ty):Prop where
 und:P.underlying T=some d.desc
 info:∃i,P.info? T=some i∧i.size=d.size∧i.bytes=d.bytes∧i.zero=some d.zero
class cI (P:Program) where
 tab:Nat->Option Ty
 ok:∀{T d},tab T=some d->qW P T d
section
variable {P:Program} {T:Nat} {d:Ty} (w:World)
theorem qW.run_und (h:qW P T d):(underlying T).run P w = .ok d.desc w:=run_underlying h.und w
theorem qW.run_size (h:qW P T d):(sizeOf T).run P w = .ok d.size w:=by
 obtain⟨i,a,b,_,_⟩:=h.info
 simp[sizeOf,typeInfo,a,b]
theorem qW.run_zero (h:qW P T d):(zeroValue T).run P w = .ok d.zero w:=by
 obtain⟨i,a,_,_,b⟩:=h.info
 simp[zeroValue,typeInfo,a,b]
def wD:TypeDesc->Bool
 | .struct _ | .array _ _=>true
 |_=>false
theorem qW.run_agg (h:qW P T d):(isAgg T).run P w = .ok (wD d.desc) w:=by
 simp only[isAgg]
 simp[h.run_und w]
 cases d.desc<;>rfl
end

section
variable {P:Program} {rd:Option Nat} {c:tE} {n:Sz} {σ:Fr} {M L:List aX}
variable {d:Option Tmp} {ty:TypeId} {pos:String} {aft:Array Edge} {g:Option (Nat×Bool)}
theorem dD {x:Operand} {v:Value} (b:ev σ x=some v):Y P c n σ M L ⟨d,.move x,ty,pos,aft,g⟩ v:=fun a w s _=>by
 simp[execOp,s.eval b]
theorem iV {x:Operand} {v:Value} (b:ev σ x=some v):Y P c n σ M L ⟨d,.assign x,ty,pos,aft,g⟩ v:=fun a w s _=>by
 simp[execOp,s.eval b]
theorem zZ {x y z:Operand} {v:Value} (b:ev σ x=some (.bool true)) (e:ev σ y=some v):Y P c n σ M L ⟨d,.pick x y z,ty,pos,aft,g⟩ v:=fun a w s _=>by
 simp[execOp,s.eval b,s.eval e,asBool]
theorem tH {x y z:Operand} {v:Value} (b:ev σ x=some (.bool false)) (e:ev σ z=some v):Y P c n σ M L ⟨d,.pick x y z,ty,pos,aft,g⟩ v:=fun a w s _=>by
 simp[execOp,s.eval b,s.eval e,asBool]
theorem Kt {x:Int} (a : -9223372036854775808<=x) (b:x<=9223372036854775807):IntKind.i64.wrap x=x:=by
 unfold IntKind.wrap
 simp only[IntKind.bits,IntKind.signed]
 simp
 omega
theorem iK {a:BinOp} {t:TypeId} {x y:Operand} {k b:IntKind} {p q:Int} (w:World):(eqGuard a t x y (.int k p) (.int b q)).run P w = .ok () w:=by
 unfold eqGuard
 cases a<;>simp
theorem Ms {t f:TypeId} {x y:Operand} {k:IntKind} {p q:Int} (b:ev σ x=some (.int k p)) (e:ev σ y=some (.int k q)) (h:q≠0):
  Y P c n σ M L ⟨d,.binOp .rem t x y f,ty,pos,aft,g⟩ (.int k (p.tmod q)):=fun a w s _=>by
 simp[execOp,s.eval b,s.eval e,binOp,Op.intDiv,iK,h]
theorem Cg {t f:TypeId} {x y:Operand} {k:IntKind} {p q:Int} (b:ev σ x=some (.int k p)) (e:ev σ y=some (.int k q)):
  Y P c n σ M L ⟨d,.binOp .lss t x y f,ty,pos,aft,g⟩ (.bool (decide (p<q))):=fun a w s _=>by
 simp[execOp,s.eval b,s.eval e,binOp,Op.intCmp,iK]
theorem zY {t f:TypeId} {x y:Operand} {k:IntKind} {p q:Int} (b:ev σ x=some (.int k p)) (e:ev σ y=some (.int k q)):
  Y P c n σ M L ⟨d,.binOp .leq t x y f,ty,pos,aft,g⟩ (.bool (decide (p<=q))):=fun a w s _=>by
 simp[execOp,s.eval b,s.eval e,binOp,Op.intCmp,iK]
theorem vR {t f:TypeId} {x y:Operand} {k:IntKind} {p q:Int} (b:ev σ x=some (.int k p)) (e:ev σ y=some (.int k q)):
  Y P c n σ M L ⟨d,.binOp .gtr t x y f,ty,pos,aft,g⟩ (.bool (decide (q<p))):=fun a w s _=>by
 simp[execOp,s.eval b,s.eval e,binOp,Op.intCmp,iK]
theorem Ce {t f:TypeId} {x y:Operand} {k:IntKind} {p q:Int} (b:ev σ x=some (.int k p)) (e:ev σ y=some (.int k q)):
  Y P c n σ M L ⟨d,.binOp .geq t x y f,ty,pos,aft,g⟩ (.bool (decide (q<=p))):=fun a w s _=>by
 simp[execOp,s.eval b,s.eval e,binOp,Op.intCmp,iK]
theorem Dr {t f:TypeId} {x y:Operand} {k:IntKind} {p q:Int} (b:ev σ x=some (.int k p)) (e:ev σ y=some (.int k q)):
  Y P c n σ M L ⟨d,.binOp .eql t x y f,ty,pos,aft,g⟩ (.bool (decide (p=q))):=fun a w s _=>by
 simp[execOp,s.eval b,s.eval e,binOp,Op.intCmp,iK]
 by_cases h:p=q<;>simp[h]
theorem HL {t f:TypeId} {x y:Operand} {k:IntKind} {p q:Int} (b:ev σ x=some (.int k p)) (e:ev σ y=some (.int k q)):
  Y P c n σ M L ⟨d,.binOp .neq t x y f,ty,pos,aft,g⟩ (.bool (decide (p≠q))):=fun a w s _=>by
 simp[execOp,s.eval b,s.eval e,binOp,Op.intCmp,iK]
 by_cases h:p=q<;>simp[h]
theorem qX {t:TypeId} {x:Operand} {b:Bool} (e:ev σ x=some (.bool b)):Y P c n σ M L ⟨d,.unOp .not t x,ty,pos,aft,g⟩ (.bool (!b)):=fun a w s _=>by
 simp[execOp,s.eval e,Op.unary]
theorem Tb {t:TypeId} {x:Operand} {p:Prop} {_:Decidable p} (b:ev σ x=some (.bool (decide p))):Y P c n σ M L ⟨d,.unOp .not t x,ty,pos,aft,g⟩ (.bool (decide (¬p))):=fun a w s _=>by
 simp[execOp,s.eval b,Op.unary]
theorem fC {x:Operand} {vs:List Value} {i:Nat} {v:Value} (e:ev σ x=some (.tuple vs.toArray)) (b:vs[i]? = some v):Y P c n σ M L ⟨d,.extract x i,ty,pos,aft,g⟩ v:=fun a w s _=>by
 simp[execOp,s.eval e,Instr.extract,b]
theorem HK {t f:TypeId} {x y:Operand} {k:IntKind} {p q:Int} (b:ev σ x=some (.int k p)) (e:ev σ y=some (.int k q)):
  Y P c n σ M L ⟨d,.call ⟨.builtin .max,#[x,y],#[t,f]⟩,ty,pos,aft,g⟩ (.int k (max p q)):=fun a w s _=>by
 simp[execOp,resolve,invoke,builtin,s.eval b,s.eval e,Builtin.max_,Builtin.max2]
 split<;>omega
theorem Yf {t f:TypeId} {x y:Operand} {k:IntKind} {p q:Int} (b:ev σ x=some (.int k p)) (e:ev σ y=some (.int k q)):
  Y P c n σ M L ⟨d,.call ⟨.builtin .min,#[x,y],#[t,f]⟩,ty,pos,aft,g⟩ (.int k (min p q)):=fun a w s _=>by
 simp[execOp,resolve,invoke,builtin,s.eval b,s.eval e,Builtin.min_,Builtin.min2]
 split<;>omega
theorem uC {fn:Fn} {cs:List Operand} {vs:List Value} (hc:cs.map (ev σ)=vs.map some):Y P c n σ M L ⟨d,.makeFunc fn #[] cs.toArray,ty,pos,aft,g⟩ (.func fn #[] vs.toArray):=fun a w s _=>by
 have:cs.map a.eval=vs:=by
  induction cs generalizing vs with
  |nil=>cases vs<;>simp_all
  |cons x cs b=>
   cases vs with
   |nil=>simp at hc
   |cons v vs=>simp at hc;simp[s.eval hc.1,b hc.2]
 simp[execOp,Instr.makeFunc,this]
end
end
section

def at' {a:Type} [Inhabited a] (xs:List a) (i:Int):a:=xs.getD i.toNat default
theorem iI {a:Type} [Inhabited a] {xs:List a} {i:Int} (b:0<=i) (h:i<xs.length):xs[i.toNat]? = some (at' xs i):=by
 unfold at'
 rw[List.getD_eq_getElem?_getD,List.getElem?_eq_getElem (by omega)]
 rfl
theorem iX {a:Type} [Inhabited a] (xs:List a) (i:Nat):at' xs (i:Int)=xs.getD i default:=by simp[at']

def Je (v:Value) (o:Nat):Addr:=match v with
 | .slice (some a) _ _=>a.add o
 |_=>⟨0,o,none⟩
def CS (v:Value) (o:Nat):Value:= .pointer (some (Je v o))
theorem Ku (a:Addr) (o p:Nat):(a.add o).add p=a.add (o+p):=by
 unfold Addr.add
 by_cases b:o=0<;>by_cases c:p=0<;>simp[b,c,Nat.add_assoc]
theorem He (v:Value) (o p:Nat):(Je v o).add p=Je v (o+p):=by
 unfold Je
 split
 ·exact Ku _ _ _
 ·unfold Addr.add;split<;>simp_all
theorem eG (b a o:Nat):(⟨b,a,none⟩:Addr).add o=⟨b,a+o,none⟩:=by
 unfold Addr.add;split<;>simp_all

def bL (b:Nat) (cs:List Value) (T:TypeId):aX where
 p w F:=F b∧w.heap[b]? = some (.cells cs.toArray T (0,0))
 mono:=fun⟨c,a⟩ h=>by
  obtain⟨d,e⟩:=h b c (Array.getElem?_eq_some_iff.1 a).1
  exact⟨d,by rw[e];exact a⟩
theorem bL.cell {b:Nat} {cs:List Value} {T:TypeId} {w:World} {F:Nat->Prop} (h:(bL b cs T).p w F) {o:Nat} {v:Value} (a:cs[o]? = some v):w.cell? ⟨b,o,none⟩=some v:=by
 simp[World.cell?,h.2,a]
theorem LN {b:Nat} {cs:List Value} {T:TypeId} {w:World} {F:Nat->Prop} (h:(bL b cs T).p w F) (o:Nat):w.frozen? ⟨b,o,none⟩=false:=by
 simp[World.frozen?,h.2]
theorem St.res {c:tE} {M L:List aX} {w:World} (t:St c M L w) {i:Nat} {m:aX} (h:M[i]? = some m):∃F,m.p w F:=by
 obtain⟨_,F,a,_⟩:=t
 exact⟨_,a.res i m h⟩
theorem St.fact {c:tE} {M L:List aX} {w:World} (t:St c M L w) {f:aX} (h:f∈L):∃S,f.p w S:=by
 obtain⟨_,F,_,a⟩:=t
 exact⟨_,a f h⟩

structure eM (α:Type) where
 sz:Nat
 pos:0<sz
 R:World->(Nat->Prop)->List Value->α->Prop
 len:∀{w S cs x},R w S cs x->cs.length=sz
 mono:∀{w w':World} {S S':Nat->Prop} {cs x},R w S cs x->(∀k,S k->k<w.heap.size->S' k∧w'.heap[k]? = w.heap[k]?)->R w' S' cs x
def KG {f:Type} (r:eM f) (w:World) (S:Nat->Prop) (v:Value) (xs:List f):Prop:=
 ∃a cap,v = .slice a xs.length cap∧(xs.length<=9223372036854775807∧xs.length<=cap)∧(xs=[]∨∃b c,a=some ⟨b,c,none⟩∧S b∧
  ∀i x,xs[i]? = some x->∃d,(∀j e,d[j]? = some e->w.cell? ⟨b,c+(i*r.sz+j),none⟩=some e)∧r.R w S d x)
theorem Rk {w w':World} {b o:Nat} {e:Value} (h:w.cell? ⟨b,o,none⟩=some e) (a:w'.heap[b]? = w.heap[b]?):w'.cell? ⟨b,o,none⟩=some e:=by
 rw[<-h];exact World.cell?_of_block a
theorem ON {w:World} {b o:Nat} {e:Value} (h:w.cell? ⟨b,o,none⟩=some e):b<w.heap.size:=World.block_lt_of_cell? w _ h
theorem KG.mono {o:Type} {r:eM o} {w w':World} {S n:Nat->Prop} {v:Value} {xs:List o} (h:KG r w S v xs)
  (e:∀k,S k->k<w.heap.size->n k∧w'.heap[k]? = w.heap[k]?):KG r w' n v xs:=by
 obtain⟨a,cap,A,t,h⟩:=h
 refine⟨a,cap,A,t,?_⟩
 rcases h with h|⟨b,m,s,q,h⟩
 ·exact .inl h
 ·cases xs with
  |nil=>exact .inl rfl
  |cons D xs=>
   obtain⟨d,c,l⟩:=h 0 D rfl
   have E:=r.len l
   have y:=r.pos
   have p:d[0]? = some (d[0]'(by omega)):=List.getElem?_eq_getElem _
   have g:=ON (c 0 _ p)
   obtain⟨f,B⟩:=e b q g
   refine .inr ⟨b,m,s,f,fun i x C=> ?_⟩
   obtain⟨d,c,l⟩:=h i x C
   exact⟨d,fun j u z=>Rk (c j u z) B,r.mono l e⟩
def Sl {a:Type} (r:eM a) (v:Value) (xs:List a):aX where
 p w S:=KG r w S v xs
 mono:=fun h e=>h.mono e
def eM.int (k:IntKind):eM Int where
 sz:=1
 pos:=Nat.one_pos
 R _ _ cs x:=cs=[.int k x]
 len h:=by simp[h]
 mono h _:=h
def eM.sl {a:Type} (r:eM a):eM (Value×List a) where
 sz:=1
 pos:=Nat.one_pos
 R w S cs x:=cs=[x.1]∧KG r w S x.1 x.2
 len h:=by simp[h.1]
 mono h e:=⟨h.1,h.2.mono e⟩
def eM.pair {f g:Type} (r:eM f) (s:eM g):eM (f×g) where
 sz:=r.sz+s.sz
 pos:=Nat.lt_of_lt_of_le r.pos (Nat.le_add_right _ _)
 R w S cs x:=∃a b,cs=a++b∧r.R w S a x.1∧s.R w S b x.2
 len h:=by obtain⟨a,b,hc,c,d⟩:=h;simp[hc,r.len c,s.len d]
 mono h e:=by obtain⟨a,b,hc,c,d⟩:=h;exact⟨a,b,hc,r.mono c e,s.mono d e⟩
def eM.Cell {a:Type} (r:eM a) (j:Nat) (f:a->Value):Prop:=∀{w S es x},r.R w S es x->es[j]? = some (f x)
theorem Eu (k:IntKind):(eM.int k).Cell 0 (fun x=> .int k x):=fun h=>by simp[show _=[_]from h]
theorem eM.sl_cell {a:Type} (r:eM a):(eM.sl r).Cell 0 (fun x=>x.1):=fun h=>by simp[h.1]
theorem oM {b e:Type} {r:eM b} {s:eM e} {j:Nat} {f:b->Value} (h:r.Cell j f):(r.pair s).Cell j (fun x=>f x.1):=by
 rintro w S i x ⟨c,g,rfl,d,_⟩
 have:=h d
 rw[List.getElem?_append_left (by
  rcases Nat.lt_or_ge j c.length with a|a
  ·exact a
  ·rw[List.getElem?_eq_none a]at this;cases this)]
 exact this
theorem cL {d b:Type} {r:eM d} {s:eM b} {j:Nat} {f:b->Value} (h:s.Cell j f):(r.pair s).Cell (r.sz+j) (fun x=>f x.2):=by
 rintro w S i x ⟨e,g,rfl,a,c⟩
 rw[List.getElem?_append_right (by rw[r.len a];omega),r.len a,Nat.add_sub_cancel_left]
 exact h c

section
variable {P:Program} {rd:Option Nat} {c:tE} {n:Sz} {σ:Fr} {M L:List aX}
variable {d:Option Tmp} {ty:TypeId} {pos:String} {aft:Array Edge} {g:Option (Nat×Bool)}
variable {α:Type} {r:eM α}
theorem E_ {T:TypeId} {b:Ty} {E:TypeId} (w:World) (e:qW P T b) (f:b.desc = .slice E) (a:Option Addr) (k cap:Nat) (ty:TypeId):
  (Builtin.len_ #[T] ty #[.slice a k cap]).run P w = .ok (.int .i64 k) w:=by
 simp[Builtin.len_,e.run_und w,f,goInt]
theorem FY {T:TypeId} {E:TypeId} {f e:Ty} (w:World) (m:qW P T f) (o:f.desc = .slice E) (l:qW P E e) (b a k cap:Nat) (i:Int) (h:0<=i) (j:i<k):
  (Instr.indexAt T (.slice (some ⟨b,a,none⟩) k cap) (.int .i64 i)).run P w = .ok (CS (.slice (some ⟨b,a,none⟩) k cap) (i.toNat*e.size)) w:=by
 simp[Instr.indexAt,asIntOf,m.run_und w,o,l.run_size w,h,j,CS,Je]
theorem oO [cI P] {T:TypeId} {D E h F:Nat} {z H:Value} {i:Array Field} {B G C:String} {m:Bool} {j b k:Nat} {l:TypeDesc} {x:Operand} {v:Value} {o f:Nat} (A:ev σ x=some (CS v o))
  (u:cI.tab P T=some ⟨.struct i,D,E,z⟩) (y:i[f]? = some ⟨B,j,b,m,G,C,k⟩) (q:cI.tab P j=some ⟨l,h,F,H⟩) (p:(h==0)=false):
  Y P c n σ M L ⟨d,.fieldAddr T x f,ty,pos,aft,g⟩ (CS v (o+b)):=fun a w s t=>by
 have e:h≠0:=by simpa using p
 simp[execOp,s.eval A,Instr.fieldAt,(cI.ok u).run_und w,y,Instr.sureAddr,CS,fieldPlace,(cI.ok q).run_size w,e,He]
theorem wP {T:TypeId} {a:Ty} {w:World} (b:qW P T a) (f:wD a.desc=false) {A:Addr} {e:Value} (h:w.cell? A=some e):
  (Instr.loadAt T (.pointer (some A))).run P w = .ok e w:=by
 simp[Instr.loadAt,Instr.sureAddr,loadVar,b.run_agg w,f,load,Sem.run,h]
theorem sl_cell {w:World} {S:Nat->Prop} {v:Value} {xs:List α} (h:KG r w S v xs) {i:Nat} {x:α} (k:xs[i]? = some x):
  ∃a,r.R w S a x∧∀j e,a[j]? = some e->w.cell? (Je v (i*r.sz+j))=some e:=by
 obtain⟨q,cap,o,_,h⟩:=h
 rcases h with h|⟨b,p,rfl,_,h⟩
 ·subst h;simp at k
 ·obtain⟨a,f,m⟩:=h i x k
  refine⟨a,m,fun j e l=> ?_⟩
  subst o
  simp only[Je,eG]
  exact f j e l
end

section
variable {P:Program} {rd:Option Nat} {c:tE} {n:Sz} {σ:Fr} {M L:List aX} {Q:Exit->Act->World->Prop} {ops:Array Oper} {rest:List Oper}
variable {d:Option Tmp} {D:Nat} {ty:TypeId} {pos:String} {aft:Array Edge} {g:Option (Nat×Bool)}
theorem cZ [cI P] {T:TypeId} {C E i F:Nat} {z H:Value} {j:Array Field} {A G B:String} {p:Bool} {k e l:Nat} {m:TypeDesc} {x:Operand} {b o f:Nat} (y:ev σ x=some (.pointer (some ⟨b,o,none⟩)))
  (u:cI.tab P T=some ⟨.struct j,C,E,z⟩) (v:j[f]? = some ⟨A,k,e,p,G,B,l⟩) (r:cI.tab P k=some ⟨m,i,F,H⟩) (q:(i==0)=false):
  Y P c n σ M L ⟨d,.fieldAddr T x f,ty,pos,aft,g⟩ (.pointer (some ⟨b,o+e,none⟩)):=fun a w s t=>by
 have h:i≠0:=by simpa using q
 simp[execOp,s.eval y,Instr.fieldAt,(cI.ok u).run_und w,v,Instr.sureAddr,fieldPlace,(cI.ok r).run_size w,h,eG]
theorem eF [cI P] (i:Nat) {T T':TypeId} {p q:Nat} {z:Value} {e:TypeDesc} {x:Operand} {b o:Nat} {cs:List Value} {v:Value} (m:ev σ x=some (.pointer (some ⟨b,o,none⟩)))
  (h:M[i]? = some (bL b cs T')) (j:cI.tab P T=some ⟨e,p,q,z⟩) (k:wD e=false) (l:cs[o]? = some v):
  Y P c n σ M L ⟨d,.load T x,ty,pos,aft,g⟩ v:=fun a w s t=>by
 obtain⟨F,f⟩:=t.res h
 simp[execOp,s.eval m,wP (cI.ok j) k (bL.cell f l)]
theorem Ah {T:TypeId} {a:Ty} {w:World} (b:qW P T a) (e:wD a.desc=true) {A:Addr} {cs:List Value} (f:cs.length=a.size) (h:∀j v,cs[j]? = some v->w.cell? (A.add j)=some v):
  (Instr.loadAt T (.pointer (some A))).run P w = .ok (.agg cs.toArray) w:=by
 have:=run_loadCells_list (P:=P) w A cs h
 simp[Instr.loadAt,Instr.sureAddr,loadVar,b.run_agg w,e,b.run_size w,<-f,this]
theorem eN [cI P] (i:Nat) {T T':TypeId} {p:Nat} {z:Value} {e:TypeDesc} {x:Operand} {b:Nat} {cs:List Value} (o:ev σ x=some (.pointer (some ⟨b,0,none⟩)))
  (h:M[i]? = some (bL b cs T')) (k:cI.tab P T=some ⟨e,cs.length,p,z⟩) (l:wD e=true):
  Y P c n σ M L ⟨d,.load T x,ty,pos,aft,g⟩ (.agg cs.toArray):=fun a w s t=>by
 obtain⟨F,f⟩:=t.res h
 have:=Ah (w:=w) (A:=⟨b,0,none⟩) (cs:=cs) (cI.ok k) l rfl (fun j v m=>by rw[eG,Nat.zero_add];exact bL.cell f m)
 simp[execOp,s.eval o,this]
theorem St.alloc {w:World} (t:St c M L w) (cs:List Value) (T:TypeId):St c (bL w.heap.size cs T::M) L (w.alloc (.cells cs.toArray T)):=by
 have e:Kw w (w.alloc (.cells cs.toArray T)):=(Below.refl _ _).alloc (Nat.le_refl _) _
 obtain⟨s,F,a,u⟩:=t
 have r:∀k,k<w.heap.size->(w.alloc (.cells cs.toArray T)).heap[k]? = w.heap[k]? := e.block
 refine⟨s.trans e,fun i k=>match i with|0=>k=w.heap.size|i+1=>F i k,⟨?_,?_,?_⟩,fun f v=> ?_⟩
 ·intro i m q
  cases i with
  |zero=>
   simp at q;subst q
   exact⟨rfl,heap_alloc_new w _⟩
  |succ i=>exact aX.same (a.res i m (by simpa using q)) (fun _ h=>h) (fun k _ p=>r k p)
 ·intro i k l
  cases i with
  |zero=>subst l;exact⟨.inl s.size,by simp⟩
  |succ i=>exact⟨(a.rng i k l).1,Nat.lt_of_lt_of_le (a.rng i k l).2 e.size⟩
 ·intro i j k b o
  cases i with
  |zero=>
   cases j with
   |zero=>rfl
   |succ j=>have:=(a.rng j k o).2;simp only at b;omega
  |succ i=>
   cases j with
   |zero=>have:=(a.rng i k b).2;simp only at o;omega
   |succ j=>exact congrArg (· + 1) (a.dis i j k b o)
 ·exact f.mono (u f v) fun k l p=>⟨⟨l.1,fun i b=>by
   cases i with
   |zero=>simp only at b;omega
   |succ i=>exact l.2 i b⟩,r k p⟩
theorem FX {T:TypeId} {a:Ty} (w:World) (b:qW P T a):(Instr.alloc T true (.tuple #[])).run P w = .ok (.pointer (some ⟨w.heap.size,0,none⟩)) (w.alloc (.cells a.zero.cells T)):=by
 simp[Instr.alloc,b.run_zero w,newVar,newRow]
theorem Hb {w w':World} {F:Nat->Nat->Prop} (s:AC c.O c.w0 w) (l:Yd c w M F) (R:∀f∈L,f.p w (De c F)) {i:Nat} {m N:aX} (K:M[i]? = some m) (H:w'.os=w.os) (I:w'.tape=w.tape) (u:w'.output=w.output) (t:w.heap.size<=w'.heap.size)
  (A:∀k,k<w.heap.size->¬F i k->w'.heap[k]? = w.heap[k]?) {F':Nat->Prop} (z:N.p w' F') (b:∀k,F' k->F i k∨(w.heap.size<=k∧k<w'.heap.size)):St c (M.set i N) L w':=by
 refine⟨⟨H.trans s.os,I.trans s.tape,u.trans s.output,Nat.le_trans s.size t,fun k a J=>(A k (Nat.lt_of_lt_of_le a s.size) (fun C=>(l.rng i k C).1.elim (fun h=>by omega) J)).trans (s.block k a J)⟩,fun j k=>(j=i∧F' k)∨(j≠i∧F j k),⟨?_,?_,?_⟩,fun f S=> ?_⟩
 ·intro j T v
  by_cases e:j=i
  ·subst e
   have G:j<M.length:=by
    rcases Nat.lt_or_ge j M.length with o|o
    ·exact o
    ·rw[List.getElem?_eq_none o]at K;cases K
   rw[List.getElem?_set_self G]at v
   cases v
   exact aX.same z (fun k a=> .inl ⟨rfl,a⟩) (fun _ _ _=>rfl)
  ·rw[List.getElem?_set_ne (Ne.symm e)]at v
   exact aX.same (l.res j T v) (fun k a=> .inr ⟨e,a⟩) (fun k a E=>A k E (fun B=>e (l.dis j i k a B)))
 ·rintro j k (⟨_,a⟩|⟨_,a⟩)
  ·rcases b k a with a|⟨q,r⟩
   ·exact⟨(l.rng i k a).1,Nat.lt_of_lt_of_le (l.rng i k a).2 t⟩
   ·exact⟨.inl (Nat.le_trans s.size q),r⟩
  ·exact⟨(l.rng j k a).1,Nat.lt_of_lt_of_le (l.rng j k a).2 t⟩
 ·rintro U V k (⟨x,q⟩|⟨x,q⟩) (⟨y,r⟩|⟨y,r⟩)
  ·rw[x,y]
  ·rcases b k q with q|⟨q,_⟩
   ·exact absurd (l.dis _ _ k r q) y
   ·have:=(l.rng _ k r).2;omega
  ·rcases b k r with r|⟨r,_⟩
   ·exact absurd (l.dis _ _ k q r) x
   ·have:=(l.rng _ k q).2;omega
  ·exact l.dis _ _ k q r
 ·exact f.mono (R f S) fun k a E=>⟨⟨a.1,by
   rintro j (⟨_,o⟩|⟨_,o⟩)
   ·rcases b k o with o|⟨o,_⟩
    ·exact a.2 _ o
    ·omega
   ·exact a.2 _ o⟩,A k E (a.2 i)⟩
theorem St.upd {w w':World} (t:St c M L w) {i:Nat} {m r:aX} (q:M[i]? = some m) (j:w'.os=w.os) (o:w'.tape=w.tape) (a:w'.output=w.output) (l:w.heap.size<=w'.heap.size)
  (h:∀F,m.p w F->(∀k,F k->c.mine k∧k<w.heap.size)->(∀k,k<w.heap.size->¬F k->w'.heap[k]? = w.heap[k]?)∧∃F',r.p w' F'∧∀k,F' k->F k∨(w.heap.size<=k∧k<w'.heap.size)):
  St c (M.set i r) L w':=by
 obtain⟨v,F,e,s⟩:=t
 obtain⟨u,F',f,b⟩:=h (F i) (e.res i m q) (e.rng i)
 exact Hb v e s q j o a l u f b
end
end
section
section
variable {P:Program} {rd:Option Nat} {c:tE} {n:Sz} {σ:Fr} {M L:List aX} {Q:Exit->Act->World->Prop} {ops:Array Oper} {rest:List Oper}
variable {d:Option Tmp} {D:Nat} {ty:TypeId} {pos:String} {aft:Array Edge} {g:Option (Nat×Bool)}
def one:Value->Bool
 | .agg _ | .tuple _=>false
 |_=>true
@[simp] theorem aat (a:Option Addr) (k c:Nat):one (.slice a k c)=true:=rfl
@[simp] theorem abS (k:IntKind) (x:Int):one (.int k x)=true:=rfl
theorem fS {v:Value} (h:one v=true):v.cells = #[v]:=by cases v<;>first|rfl|cases h
theorem nW {v:Value} (h:one v=true):v.oneCell'=true:=by cases v<;>first|rfl|cases h
theorem EJ {w:World} {b o:Nat} {cs:List Value} {T:TypeId} (h:w.heap[b]? = some (.cells cs.toArray T (0,0))) (v:Value):
  (w.setCell ⟨b,o,none⟩ v).heap[b]? = some (.cells (cs.set o v).toArray T (0,0)):=by
 simp[World.setCell,Array.getElem?_modify,h]
theorem St.store {w:World} (t:St c M L w) {i b o:Nat} {cs:List Value} {T:TypeId} (f:M[i]? = some (bL b cs T)) (v:Value):
  St c (M.set i (bL b (cs.set o v) T)) L (w.setCell ⟨b,o,none⟩ v):=
 t.upd f rfl rfl rfl (by simp[World.setCell]) fun F a _=>⟨fun k _ j=>Below.heap_setCell _ _ _ _ (fun e=>j (by simp only at e;subst e;exact a.1)),
  F,⟨a.1,EJ a.2 v⟩,fun _ h=> .inl h⟩
theorem BB {T:TypeId} {b:Ty} {w:World} (j:qW P T b) (l:b.size=1) {A:Addr} {v e:Value} (f:one v=true) (h:w.cell? A=some e) (k:w.frozen? A=false):
  (Instr.storeAt T (.pointer (some A)) v).run P w = .ok () (w.setCell A v):=by
 have i:A.add 0=A:=rfl
 have a:(store A v).run P w = .ok () (w.setCell A v):=by
  unfold store
  cases v<;>first|(simp only[Sem.run,h,k];rfl)|cases f
 simp only[Instr.storeAt,Instr.sureAddr,storeVar,fS f]
 simp[j.run_size w,l,storeCells,i,a]
theorem eP [cI P] (i:Nat) {T T':TypeId} {A:Nat} {z:Value} {l:TypeDesc} {x y:Operand} {b o:Nat} {cs:List Value} {v:Value} (r:ev σ x=some (.pointer (some ⟨b,o,none⟩)))
  (u:ev σ y=some v) (q:one v=true) (k:M[i]? = some (bL b cs T')) (m:cI.tab P T=some ⟨l,1,A,z⟩) (p:Nat.blt o cs.length=true)
  (h:J c n σ (M.set i (bL b (cs.set o v) T')) L (wpList P ops Q rest)):
  J c n σ M L (wpList P ops Q (⟨none,.store T x y,ty,pos,aft,none⟩::rest)):=fun a w s t=>by
 refine lO rfl ?_
 obtain⟨F,j⟩:=t.res k
 have f:o<cs.length:=by simpa [Nat.blt_eq]using p
 have e:(execOp a.eval ⟨none,.store T x y,ty,pos,aft,none⟩).run P w = .ok .skip (w.setCell ⟨b,o,none⟩ v):=by
  simp[execOp,s.eval r,s.eval u,BB (cI.ok m) rfl q (bL.cell j (List.getElem?_eq_getElem f)) (LN j o)]
 simp only[Oper.wp,e,Oper.upon]
 exact h _ _ s (t.store k v)
theorem St.fill {w:World} (t:St c M L w) {i b:Nat} {cs a:List Value} {T:TypeId} (j:M[i]? = some (bL b cs T)):
  St c (M.set i (bL b a T)) L (w.setRow b a.toArray):=
 t.upd j rfl rfl rfl (by simp) fun F f _=>⟨fun k _ l=>setRow_other w b k _ (fun e=>l (by subst e;exact f.1)),
  F,⟨f.1,setRow_heap w b _ _ T _ f.2⟩,fun _ h=> .inl h⟩
theorem bE [cI P] (i:Nat) {T T':TypeId} {G:Nat} {z:Value} {q:TypeDesc} {x y:Operand} {b:Nat} {cs vs:List Value} (C:ev σ x=some (.pointer (some ⟨b,0,none⟩)))
  (E:ev σ y=some (.agg vs.toArray)) (B:vs.all one=true) (p:M[i]? = some (bL b cs T')) (u:cI.tab P T=some ⟨q,vs.length,G,z⟩) (A:Nat.beq vs.length cs.length=true)
  (h:J c n σ (M.set i (bL b vs T')) L (wpList P ops Q rest)):
  J c n σ M L (wpList P ops Q (⟨none,.store T x y,ty,pos,aft,none⟩::rest)):=fun a w s t=>by
 refine lO rfl ?_
 obtain⟨F,r⟩:=t.res p
 have e:vs.length=cs.length:=Nat.eq_of_beq_eq_true A
 have f:∀v∈vs,v.oneCell'=true:=fun v o=>nW (by simpa using List.all_eq_true.1 B v o)
 obtain⟨H,k,m,_,_⟩:=(cI.ok u).info
 have l:=run_storeVar_row (P:=P) w b T' T cs.toArray vs.toArray r.2 (by simp[k,m]) (by simp[e]) (by simpa using f)
 have j:(execOp a.eval ⟨none,.store T x y,ty,pos,aft,none⟩).run P w = .ok .skip (w.setRow b vs.toArray):=by
  simp[execOp,s.eval C,s.eval E,Instr.storeAt,Instr.sureAddr,l]
 simp only[Oper.wp,j,Oper.upon]
 exact h _ _ s (t.fill p)

def aU (P:Program) (f:FuncId) (args:Array Value) (L:List aX) {A:Type} (a:A->Value) (j LO:A->List aX->List aX):Prop:=
 ∀(b:World) (i:Nat->Prop),(∀h∈L,h.p b i)->Calls P f args b fun e w'=>∃x:A,e = .returned (a x)∧St ⟨b,i,fun _=>False⟩ (j x []) (LO x []) w'
def abn (m:Nat) (F' F:Nat->Nat->Prop) (i k:Nat):Prop:=(i<m∧F' i k)∨(m<=i∧F (i - m) k)
theorem Yd.new {w:World} {M:List aX} {F:Nat->Nat->Prop} {a:World} {b:Nat->Prop} (h:Yd ⟨a,b,fun _=>False⟩ w M F) {i k:Nat} (e:F i k):a.heap.size<=k:=by
 rcases(h.rng i k e).1 with h|h
 ·exact h
 ·exact h.elim
theorem St.call {w w':World} {v C:List aX} {F:Nat->Nat->Prop} (B:AC c.O c.w0 w) (q:Yd c w M F) (G:∀f∈L,f.p w (De c F))
  (t:St ⟨w,De c F,fun _=>False⟩ v C w'):St c (v++M) (C++L) w':=by
 obtain⟨o,F',a,y⟩:=t
 have o:=o.ext
 have E:=o.block
 refine⟨B.trans o,abn v.length F' F,⟨?_,?_,?_⟩,fun f hf=> ?_⟩
 ·intro i m x
  by_cases e:i<v.length
  ·rw[List.getElem?_append_left e]at x
   exact aX.same (a.res i m x) (fun k b=> .inl ⟨e,b⟩) (fun _ _ _=>rfl)
  ·rw[List.getElem?_append_right (by omega)]at x
   exact aX.same (q.res _ m x) (fun k b=> .inr ⟨by omega,b⟩) (fun k _ z=>E k z)
 ·rintro i k (⟨_,b⟩|⟨_,b⟩)
  ·exact⟨.inl (Nat.le_trans B.size (a.new b)),(a.rng i k b).2⟩
  ·exact⟨(q.rng _ k b).1,Nat.lt_of_lt_of_le (q.rng _ k b).2 o.size⟩
 ·rintro i j k (⟨e,r⟩|⟨e,r⟩) (⟨H,s⟩|⟨H,s⟩)
  ·exact a.dis i j k r s
  ·have:=a.new r;have:=(q.rng _ k s).2;simp only at *;omega
  ·have:=a.new s;have:=(q.rng _ k r).2;simp only at *;omega
  ·have:=q.dis _ _ k r s;omega
 ·rcases List.mem_append.1 hf with hf|hf
  ·refine aX.same (y f hf) (fun k b=> ?_) (fun _ _ _=>rfl)
   obtain⟨u,A⟩:=b
   have l:De c F k∨w.heap.size<=k:=by
    rcases u with h|h|h
    ·exact .inl h
    ·exact .inr h
    ·exact h.elim
   refine⟨?_,?_⟩
   ·rcases l with h|h
    ·exact h.1
    ·exact .inr (.inl (Nat.le_trans B.size h))
   ·rintro i (⟨_,e⟩|⟨_,e⟩)
    ·exact A i e
    ·rcases l with h|h
     ·exact h.2 _ e
     ·have:=(q.rng _ k e).2;omega
  ·refine f.mono (G f hf) fun k b z=>⟨⟨b.1,?_⟩,E k z⟩
   rintro i (⟨_,e⟩|⟨_,e⟩)
   ·have:=a.new e;omega
   ·exact b.2 _ e
theorem ZA {xs:List Operand} {vs:List Value} {a:Act} (s:DT n σ a) (h:xs.map (ev σ)=vs.map some):xs.map a.eval=vs:=by
 induction xs generalizing vs with
 |nil=>cases vs<;>simp_all
 |cons x xs b=>
  cases vs with
  |nil=>simp at h
  |cons v vs=>simp at h;simp[s.eval h.1,b h.2]
def aP (P:Program) (f:FuncId):Prop:=∀args w,(callFunc f args).run P w = .ok (.enter f args) w

def KE {A:Type} (c:tE) (a:A->Value) (b LO:A->List aX->List aX) (e:Ending) (w:World):Prop:=∃x:A,e = .returned (a x)∧St c (b x []) (LO x []) w
def wG:Nat->List Value->Fr
 |_,[]=>[]
 |k,v::vs=>(k,v)::wG (k+1) vs
theorem Cn (vs:List Value):∀k t v,lk (wG k vs) t=some v->k<=t∧vs[t - k]? = some v:=by
 induction vs with
 |nil=>intro k t v h;simp[wG,lk]at h
 | cons u vs ih =>
  intro k t v h
  simp only[wG,lk]at h
  by_cases e:t=k
  ·subst e;simp at h;subst h;simp
  ·rw[lY e]at h
   obtain⟨b,a⟩:=ih (k+1) t v h
   refine⟨by omega,?_⟩
   have:t - k=(t - (k+1))+1:=by omega
   rw[this,List.getElem?_cons_succ];exact a
theorem aU.of {A:Type} {b:A->Value} {r LO:A->List aX->List aX} {f:FuncId} {fn:Func} {a:Code} {vs:List Value} {m:Nat}
  (o:P.funcs[f]? = some fn) (w:fn.body=some a) (z:fn.ntmps=m) (y:Nat.ble vs.length m=true)
  (h:∀c:tE,J c ⟨m,[]⟩ (wG 0 vs) [] L (a.wpr none P (fV P fn (KE c b r LO)))):aU P f vs.toArray L b r LO:=fun C s u=>by
 have p:vs.length<=m:=by simpa using y
 refine rM o w (h ⟨C,s,fun _=>False⟩ _ _ ⟨rfl,by simp[z,p],?_⟩ ⟨AC.refl _,fun _ _=>False,⟨?_,?_,?_⟩,?_⟩)
 ·intro t v B
  obtain⟨_,e⟩:=Cn vs 0 t v B
  rw[Nat.sub_zero]at e
  have q:t<vs.length:=by
   rcases Nat.lt_or_ge t vs.length with l|l
   ·exact l
   ·rw[List.getElem?_eq_none l]at e;cases e
  rw[Array.getElem?_append_left (by simpa using q)]
  simpa using e
 ·intro i m h;simp at h
 ·intro i k h;exact h.elim
 ·intro i j k h;exact h.elim
 ·intro f o
  exact aX.same (u f o) (fun k x=>⟨.inl x,fun _ h=>h⟩) (fun _ _ _=>rfl)
theorem YC {A:Type} {b:A->Value} {i LO:A->List aX->List aX} {fn:Func} (x:A) (e:Exit) (l:e = .ret∨e = .normal)
  (m:∀a w,DT n σ a->St c M L w->(results fn a.tmps).run P w = .ok (b x) w) (k:aR M (i x [])) (j:∀f∈LO x [],f∈L) (h:n.ds=[]:=by rfl):
  J c n σ M L (fV P fn (KE c b i LO) e):=fun a w s t=>
 body_end l (s.defers.trans h) (m a w s t) ⟨x,rfl,t.weak k j⟩
theorem Vd [cI P] {T T':TypeId} {l:Nat} {z:Value} {a:TypeDesc} {w:World} {b:Nat} {cs:List Value} {F:Nat->Prop} (f:(bL b cs T').p w F)
  (e:cI.tab P T=some ⟨a,cs.length,l,z⟩) (h:wD a=true):(loadVar T ⟨b,0,none⟩).run P w = .ok (.agg cs.toArray) w:=by
 have i:=run_loadCells_list (P:=P) w ⟨b,0,none⟩ cs (fun j v k=>by rw[eG,Nat.zero_add];exact bL.cell f k)
 simp[loadVar,(cI.ok e).run_agg w,h,(cI.ok e).run_size w,i]
end
end
end Go.Sx
end
section
namespace Go.Sx
open Go.Proofs
theorem ZG {P:Program} {T:Nat} {i:TypeInfo} (h:P.types[T]? = some i):P.info? T=some i:=by
 unfold Tables.info?
 rw[if_pos (Array.getElem?_eq_some_iff.1 h).1];exact h
noncomputable def zOf (i:TypeInfo):Value:=i.zero.getD (.tuple #[])
noncomputable def aW (d:TypeDesc) (s b:Nat) (i:TypeInfo):Ty:=⟨d,s,b,zOf i⟩
noncomputable def y2:=aW Tryz.t2.desc 1 8 Tryz.t2
noncomputable def y3:=aW Tryz.t2.desc 1 8 Tryz.t3
noncomputable def y4:=aW Tryz.t4.desc 1 1 Tryz.t4
noncomputable def y5:=aW Tryz.t5.desc 1 1 Tryz.t5
noncomputable def y6:=aW Tryz.t5.desc 1 1 Tryz.t6
noncomputable def y7:=aW Tryz.t7.desc 4 24 Tryz.t7
noncomputable def y8:=aW Tryz.t7.desc 4 24 Tryz.t8
noncomputable def y9:=aW Tryz.t9.desc 1 16 Tryz.t9
noncomputable def y10:=aW Tryz.t9.desc 1 16 Tryz.t10
noncomputable def y11:=aW Tryz.t9.desc 1 16 Tryz.t11
noncomputable def y12:=aW Tryz.t12.desc 1 8 Tryz.t12
noncomputable def y13:=aW Tryz.t13.desc 2 24 Tryz.t13
noncomputable def y14:=aW Tryz.t13.desc 2 24 Tryz.t14
noncomputable def y15:=aW Tryz.t15.desc 1 8 Tryz.t15
noncomputable def y16:=aW Tryz.t16.desc 1 8 Tryz.t16
noncomputable def y17:=aW Tryz.t17.desc 1 8 Tryz.t17
noncomputable def y18:=aW Tryz.t18.desc 1 8 Tryz.t18
noncomputable def y19:=aW Tryz.t18.desc 1 8 Tryz.t19
noncomputable def y20:=aW Tryz.t20.desc 1 16 Tryz.t20
noncomputable def y21:=aW Tryz.t21.desc 1 4 Tryz.t21
noncomputable def y22:=aW Tryz.t22.desc 1 24 Tryz.t22
noncomputable def y23:=aW Tryz.t23.desc 6 88 Tryz.t23
noncomputable def y24:=aW Tryz.t23.desc 6 88 Tryz.t24
noncomputable def y25:=aW Tryz.t25.desc 1 24 Tryz.t25
noncomputable def y26:=aW Tryz.t26.desc 1 4 Tryz.t26
noncomputable def y27:=aW Tryz.t27.desc 1 24 Tryz.t27
noncomputable def y28:=aW Tryz.t28.desc 2 48 Tryz.t28
noncomputable def y29:=aW Tryz.t28.desc 2 48 Tryz.t29
noncomputable def y30:=aW Tryz.t30.desc 1 8 Tryz.t30
noncomputable def y31:=aW Tryz.t31.desc 1 8 Tryz.t31
noncomputable def y32:=aW Tryz.t32.desc 1 24 Tryz.t32
noncomputable def y33:=aW Tryz.t33.desc 1 8 Tryz.t33
noncomputable def y34:=aW Tryz.t34.desc 1 24 Tryz.t34
noncomputable def y35:=aW Tryz.t35.desc 3 64 Tryz.t35
noncomputable def y36:=aW Tryz.t35.desc 3 64 Tryz.t36
noncomputable def y37:=aW Tryz.t37.desc 1 8 Tryz.t37
noncomputable def y38:=aW Tryz.t38.desc 1 24 Tryz.t38
noncomputable def y39:=aW Tryz.t39.desc 1 8 Tryz.t39
noncomputable def y40:=aW Tryz.t40.desc 1 8 Tryz.t40
noncomputable def y41:=aW Tryz.t41.desc 1 8 Tryz.t41
noncomputable def y42:=aW Tryz.t42.desc 6 64 Tryz.t42
noncomputable def y43:=aW Tryz.t42.desc 6 64 Tryz.t43
noncomputable def y44:=aW Tryz.t2.desc 1 8 Tryz.t44
noncomputable def y46:=aW Tryz.t46.desc 1 8 Tryz.t46
noncomputable def y48:=aW Tryz.t48.desc 1 8 Tryz.t48
noncomputable def y49:=aW Tryz.t49.desc 1 8 Tryz.t49
noncomputable def y50:=aW Tryz.t50.desc 1 8 Tryz.t50
noncomputable def y51:=aW Tryz.t51.desc 1 8 Tryz.t51
noncomputable def y52:=aW Tryz.t52.desc 1 8 Tryz.t52
noncomputable def y53:=aW Tryz.t53.desc 1 8 Tryz.t53
noncomputable def y54:=aW Tryz.t54.desc 1 8 Tryz.t54
noncomputable def y56:=aW Tryz.t56.desc 1 8 Tryz.t56
noncomputable def y57:=aW Tryz.t57.desc 1 8 Tryz.t57
noncomputable def y58:=aW Tryz.t58.desc 1 8 Tryz.t58
noncomputable def y59:=aW Tryz.t59.desc 1 8 Tryz.t59
noncomputable def y60:=aW Tryz.t60.desc 5 40 Tryz.t60
noncomputable def y61:=aW Tryz.t60.desc 5 40 Tryz.t61
noncomputable def y62:=aW Tryz.t62.desc 8 112 Tryz.t62
noncomputable def y63:=aW Tryz.t62.desc 8 112 Tryz.t63
noncomputable def y65:=aW Tryz.t65.desc 1 8 Tryz.t65
noncomputable def y66:=aW Tryz.t66.desc 1 8 Tryz.t66
noncomputable def y67:=aW Tryz.t67.desc 1 8 Tryz.t67
noncomputable def y68:=aW Tryz.t68.desc 1 24 Tryz.t68
noncomputable def y69:=aW Tryz.t69.desc 1 24 Tryz.t69
noncomputable def y71:=aW Tryz.t71.desc 1 8 Tryz.t71
noncomputable def y72:=aW Tryz.t72.desc 1 8 Tryz.t72
noncomputable def y73:=aW Tryz.t73.desc 1 8 Tryz.t73
noncomputable def y75:=aW Tryz.t75.desc 1 8 Tryz.t75
noncomputable def y77:=aW Tryz.t77.desc 1 8 Tryz.t77
noncomputable def y78:=aW Tryz.t78.desc 1 8 Tryz.t78
noncomputable def y79:=aW Tryz.t79.desc 1 8 Tryz.t79
noncomputable def y80:=aW Tryz.t12.desc 1 8 Tryz.t80
noncomputable def y81:=aW Tryz.t81.desc 1 8 Tryz.t81
noncomputable def y82:=aW Tryz.t82.desc 1 8 Tryz.t82
noncomputable def y83:=aW Tryz.t83.desc 6 56 Tryz.t83
noncomputable def y84:=aW Tryz.t83.desc 6 56 Tryz.t84
noncomputable def y85:=aW Tryz.t85.desc 1 8 Tryz.t85
noncomputable def y86:=aW Tryz.t86.desc 1 8 Tryz.t86
noncomputable def y88:=aW Tryz.t88.desc 1 8 Tryz.t88
noncomputable def y89:=aW Tryz.t89.desc 1 24 Tryz.t89
noncomputable def y90:=aW Tryz.t90.desc 1 8 Tryz.t90
noncomputable def y92:=aW Tryz.t92.desc 1 8 Tryz.t92
noncomputable def y93:=aW Tryz.t93.desc 1 8 Tryz.t93
noncomputable def y94:=aW Tryz.t94.desc 1 8 Tryz.t94
noncomputable def y95:=aW Tryz.t95.desc 1 8 Tryz.t95
noncomputable def y96:=aW Tryz.t96.desc 1 8 Tryz.t96
noncomputable def y97:=aW Tryz.t97.desc 1 8 Tryz.t97
noncomputable def y98:=aW Tryz.t98.desc 1 8 Tryz.t98
noncomputable def y99:=aW Tryz.t99.desc 1 8 Tryz.t99
noncomputable def aeI:=aW Tryz.t100.desc 1 8 Tryz.t100
noncomputable def aeJ:=aW Tryz.t101.desc 1 8 Tryz.t101
noncomputable def aeK:=aW Tryz.t102.desc 1 8 Tryz.t102
noncomputable def aeL:=aW Tryz.t103.desc 1 8 Tryz.t103
noncomputable def aeM:=aW Tryz.t25.desc 1 24 Tryz.t104
noncomputable def aeN:=aW Tryz.t105.desc 1 8 Tryz.t105
noncomputable def aeO:=aW Tryz.t106.desc 5 56 Tryz.t106
noncomputable def aeP:=aW Tryz.t106.desc 5 56 Tryz.t107
noncomputable def aeQ:=aW Tryz.t108.desc 1 8 Tryz.t108
noncomputable def aeR:=aW Tryz.t109.desc 1 8 Tryz.t109
noncomputable def aeS:=aW Tryz.t111.desc 1 8 Tryz.t111
noncomputable def aeT:=aW Tryz.t112.desc 2 16 Tryz.t112
noncomputable def aeU:=aW Tryz.t112.desc 2 16 Tryz.t113
noncomputable def aeV:=aW Tryz.t114.desc 2 16 Tryz.t114
noncomputable def aeW:=aW Tryz.t115.desc 4 32 Tryz.t115
noncomputable def aeX:=aW Tryz.t117.desc 1 8 Tryz.t117
noncomputable def aeY:=aW Tryz.t118.desc 1 8 Tryz.t118
noncomputable def aeZ:=aW Tryz.t119.desc 1 8 Tryz.t119
noncomputable def ae_:=aW Tryz.t120.desc 1 8 Tryz.t120
noncomputable def afa:=aW Tryz.t121.desc 1 8 Tryz.t121
noncomputable def afb:=aW Tryz.t122.desc 1 8 Tryz.t122
noncomputable def afc:=aW Tryz.t123.desc 1 8 Tryz.t123
noncomputable def afd:=aW Tryz.t124.desc 1 24 Tryz.t124
noncomputable def afe:=aW Tryz.t125.desc 1 8 Tryz.t125
noncomputable def aff:=aW Tryz.t126.desc 1 8 Tryz.t126
noncomputable def afg:=aW Tryz.t127.desc 1 8 Tryz.t127
noncomputable def afh:=aW Tryz.t128.desc 1 24 Tryz.t128
noncomputable def afi:=aW Tryz.t129.desc 1 8 Tryz.t129
noncomputable def afj:=aW Tryz.t130.desc 1 8 Tryz.t130
noncomputable def afk:=aW Tryz.t131.desc 1 8 Tryz.t131
noncomputable def afl:=aW Tryz.t132.desc 1 8 Tryz.t132
noncomputable def afm:=aW Tryz.t133.desc 1 24 Tryz.t133
noncomputable def afn:=aW Tryz.t135.desc 1 8 Tryz.t135
noncomputable def afo:=aW Tryz.t136.desc 1 8 Tryz.t136
noncomputable def afp:=aW Tryz.t137.desc 1 24 Tryz.t137
noncomputable def afq:=aW Tryz.t138.desc 3 64 Tryz.t138
noncomputable def afr:=aW Tryz.t138.desc 3 64 Tryz.t139
noncomputable def afs:=aW Tryz.t140.desc 7 152 Tryz.t140
noncomputable def afu:=aW Tryz.t140.desc 7 152 Tryz.t141
noncomputable def afv:=aW Tryz.t142.desc 1 8 Tryz.t142
noncomputable def afw:=aW Tryz.t143.desc 1 8 Tryz.t143
noncomputable def afx:=aW Tryz.t144.desc 24 192 Tryz.t144
noncomputable def afy:=aW Tryz.t145.desc 1 8 Tryz.t145
noncomputable def afz:=aW Tryz.t146.desc 1 8 Tryz.t146
noncomputable def afA:=aW Tryz.t147.desc 1 8 Tryz.t147
noncomputable def afB:=aW Tryz.t148.desc 1 8 Tryz.t148
noncomputable def afC:=aW Tryz.t149.desc 32 32 Tryz.t149
noncomputable def afD:=aW Tryz.t150.desc 1 8 Tryz.t150
noncomputable def afE:=aW Tryz.t151.desc 1 8 Tryz.t151
noncomputable def afF:=aW Tryz.t152.desc 1 8 Tryz.t152
noncomputable def afG:=aW Tryz.t153.desc 1 8 Tryz.t153
noncomputable def afH:=aW Tryz.t154.desc 1 8 Tryz.t154
noncomputable def afI:=aW Tryz.t155.desc 1 8 Tryz.t155
noncomputable def afJ:=aW Tryz.t156.desc 1 8 Tryz.t156
noncomputable def afK:=aW Tryz.t157.desc 1 8 Tryz.t157
noncomputable def afL:=aW Tryz.t158.desc 1 8 Tryz.t158
noncomputable def afM:=aW Tryz.t159.desc 1 8 Tryz.t159
noncomputable def afN:=aW Tryz.t160.desc 1 8 Tryz.t160
noncomputable def afO:=aW Tryz.t160.desc 1 8 Tryz.t161
noncomputable def afP:=aW Tryz.t162.desc 1 8 Tryz.t162
noncomputable def afQ:=aW Tryz.t163.desc 1 8 Tryz.t163
noncomputable def afR:=aW Tryz.t165.desc 1 8 Tryz.t165
noncomputable def afS:=aW Tryz.t166.desc 1 8 Tryz.t166
noncomputable def afT:=aW Tryz.t167.desc 1 8 Tryz.t167
noncomputable def afU:=aW Tryz.t168.desc 1 8 Tryz.t168
noncomputable def afV:=aW Tryz.t169.desc 5 96 Tryz.t169
noncomputable def afW:=aW Tryz.t169.desc 5 96 Tryz.t170
noncomputable def afX:=aW Tryz.t171.desc 1 8 Tryz.t171
noncomputable def afY:=aW Tryz.t172.desc 1 8 Tryz.t172
noncomputable def afZ:=aW Tryz.t173.desc 1 8 Tryz.t173
noncomputable def af_:=aW Tryz.t174.desc 1 8 Tryz.t174
noncomputable def aga:=aW Tryz.t175.desc 4 32 Tryz.t175
noncomputable def agb:=aW Tryz.t175.desc 4 32 Tryz.t176
noncomputable def agc:=aW Tryz.t178.desc 1 8 Tryz.t178
noncomputable def agd:=aW Tryz.t179.desc 2 16 Tryz.t179
noncomputable def age:=aW Tryz.t179.desc 2 16 Tryz.t180
noncomputable def agf:=aW Tryz.t182.desc 1 8 Tryz.t182
noncomputable def agh:=aW Tryz.t183.desc 1 8 Tryz.t183
noncomputable def agi:=aW Tryz.t184.desc 1 8 Tryz.t184
noncomputable def agj:=aW Tryz.t185.desc 1 8 Tryz.t185
noncomputable def agk:=aW Tryz.t186.desc 1 8 Tryz.t186
noncomputable def agl:=aW Tryz.t187.desc 1 8 Tryz.t187
noncomputable def agm:=aW Tryz.t188.desc 1 24 Tryz.t188
noncomputable def agn:=aW Tryz.t189.desc 1 24 Tryz.t189
noncomputable def ago:=aW Tryz.t190.desc 3 64 Tryz.t190
noncomputable def agp:=aW Tryz.t190.desc 3 64 Tryz.t191
noncomputable def agq:=aW Tryz.t192.desc 1 8 Tryz.t192
noncomputable def agr:=aW Tryz.t193.desc 1 8 Tryz.t193
noncomputable def ags:=aW Tryz.t194.desc 1 8 Tryz.t194
noncomputable def agt:=aW Tryz.t195.desc 1 8 Tryz.t195
noncomputable def agu:=aW Tryz.t196.desc 1 8 Tryz.t196
noncomputable def agv:=aW Tryz.t198.desc 1 8 Tryz.t198
noncomputable def agw:=aW Tryz.t199.desc 1 8 Tryz.t199
noncomputable def agx:=aW Tryz.t200.desc 1 8 Tryz.t200
noncomputable def agy:=aW Tryz.t201.desc 1 8 Tryz.t201
noncomputable def agz:=aW Tryz.t202.desc 1 8 Tryz.t202
noncomputable def agA:=aW Tryz.t203.desc 256 256 Tryz.t203
noncomputable def agB:=aW Tryz.t204.desc 1 8 Tryz.t204
noncomputable def agC:=aW Tryz.t207.desc 1 8 Tryz.t207
noncomputable def agD:=aW Tryz.t208.desc 1 8 Tryz.t208
noncomputable def agE:=aW Tryz.t209.desc 1 8 Tryz.t209
noncomputable def agF:=aW Tryz.t209.desc 1 8 Tryz.t210
noncomputable def agG:=aW Tryz.t211.desc 1 8 Tryz.t211
noncomputable def agH:=aW Tryz.t212.desc 1 8 Tryz.t212
noncomputable def agI:=aW Tryz.t213.desc 1 8 Tryz.t213
noncomputable def agJ:=aW Tryz.t214.desc 2 16 Tryz.t214
noncomputable def agK:=aW Tryz.t214.desc 2 16 Tryz.t215
noncomputable def agL:=aW Tryz.t216.desc 1 24 Tryz.t216
noncomputable def agM:=aW Tryz.t217.desc 7 144 Tryz.t217
noncomputable def agN:=aW Tryz.t217.desc 7 144 Tryz.t218
noncomputable def agO:=aW Tryz.t219.desc 1 8 Tryz.t219
noncomputable def agP:=aW Tryz.t220.desc 1 8 Tryz.t220
noncomputable def agQ:=aW Tryz.t221.desc 1 8 Tryz.t221
noncomputable def agS:=aW Tryz.t222.desc 1 8 Tryz.t222
noncomputable def agT:=aW Tryz.t223.desc 1 8 Tryz.t223
noncomputable def agU:=aW Tryz.t224.desc 1 8 Tryz.t224
noncomputable def agV:=aW Tryz.t225.desc 1 8 Tryz.t225
noncomputable def agW:=aW Tryz.t226.desc 1 8 Tryz.t226
noncomputable def agX:=aW Tryz.t227.desc 1 8 Tryz.t227
noncomputable def agY:=aW Tryz.t228.desc 1 8 Tryz.t228
noncomputable def agZ:=aW Tryz.t229.desc 1 8 Tryz.t229
noncomputable def ag_:=aW Tryz.t230.desc 1 8 Tryz.t230
noncomputable def aha:=aW Tryz.t231.desc 2 32 Tryz.t231
noncomputable def ahb:=aW Tryz.t231.desc 2 32 Tryz.t232
noncomputable def ahc:=aW Tryz.t233.desc 1 8 Tryz.t233
noncomputable def ahd:=aW Tryz.t234.desc 1 8 Tryz.t234
noncomputable def ahe:=aW Tryz.t235.desc 1 8 Tryz.t235
noncomputable def ahf:=aW Tryz.t236.desc 1 8 Tryz.t236
noncomputable def ahg:=aW Tryz.t237.desc 1 8 Tryz.t237
noncomputable def ahh:=aW Tryz.t238.desc 1 8 Tryz.t238
noncomputable def ahi:=aW Tryz.t239.desc 1 8 Tryz.t239
noncomputable def ahj:=aW Tryz.t240.desc 1 8 Tryz.t240
noncomputable def ahk:=aW Tryz.t241.desc 1 8 Tryz.t241
noncomputable def ahl:=aW Tryz.t242.desc 1 8 Tryz.t242
noncomputable def ahm:=aW Tryz.t243.desc 1 8 Tryz.t243
noncomputable def ahn:=aW Tryz.t244.desc 1 8 Tryz.t244
noncomputable def aho:=aW Tryz.t245.desc 1 8 Tryz.t245
noncomputable def ahp:=aW Tryz.t246.desc 1 8 Tryz.t246
noncomputable def ahq:=aW Tryz.t247.desc 1 8 Tryz.t247
noncomputable def ahr:=aW Tryz.t248.desc 1 8 Tryz.t248
noncomputable def ahs:=aW Tryz.t249.desc 1 8 Tryz.t249
noncomputable def aht:=aW Tryz.t250.desc 2 16 Tryz.t250
noncomputable def ahu:=aW Tryz.t250.desc 2 16 Tryz.t251
noncomputable def ahv:=aW Tryz.t252.desc 1 8 Tryz.t252
noncomputable def ahw:=aW Tryz.t253.desc 1 8 Tryz.t253
noncomputable def ahx:=aW Tryz.t254.desc 2 48 Tryz.t254
noncomputable def ahy:=aW Tryz.t254.desc 2 48 Tryz.t255
noncomputable def ahz:=aW Tryz.t256.desc 1 8 Tryz.t256
noncomputable def ahA:=aW Tryz.t257.desc 1 8 Tryz.t257
noncomputable def ahB:=aW Tryz.t258.desc 1 8 Tryz.t258
noncomputable def ahC:=aW Tryz.t259.desc 1 8 Tryz.t259
noncomputable def ahD:=aW Tryz.t260.desc 1 8 Tryz.t260
noncomputable def ahE:=aW Tryz.t261.desc 4 64 Tryz.t261
noncomputable def ahF:=aW Tryz.t261.desc 4 64 Tryz.t262
noncomputable def ahG:=aW Tryz.t263.desc 1 8 Tryz.t263
noncomputable def ahH:=aW Tryz.t264.desc 1 8 Tryz.t264
noncomputable def ahI:=aW Tryz.t265.desc 1 24 Tryz.t265
noncomputable def ahJ:=aW Tryz.t266.desc 1 8 Tryz.t266
noncomputable def ahK:=aW Tryz.t267.desc 1 8 Tryz.t267
noncomputable def ahL:=aW Tryz.t268.desc 1 8 Tryz.t268
noncomputable def ahM:=aW Tryz.t269.desc 3 24 Tryz.t269
noncomputable def ahN:=aW Tryz.t270.desc 1 8 Tryz.t270
noncomputable def ahO:=aW Tryz.t271.desc 1 8 Tryz.t271
noncomputable def ahP:=aW Tryz.t272.desc 1 8 Tryz.t272
noncomputable def ahQ:=aW Tryz.t273.desc 1 8 Tryz.t273
noncomputable def ahR:=aW Tryz.t274.desc 1 8 Tryz.t274
noncomputable def ahS:=aW Tryz.t275.desc 1 8 Tryz.t275
noncomputable def ahT:=aW Tryz.t276.desc 1 8 Tryz.t276
noncomputable def ahU:=aW Tryz.t277.desc 1 8 Tryz.t277
noncomputable def ahV:=aW Tryz.t278.desc 1 8 Tryz.t278
noncomputable def ahW:=aW Tryz.t279.desc 1 8 Tryz.t279
noncomputable def ahX:=aW Tryz.t280.desc 1 8 Tryz.t280
noncomputable def ahY:=aW Tryz.t281.desc 1 8 Tryz.t281
noncomputable def ahZ:=aW Tryz.t282.desc 1 8 Tryz.t282
noncomputable def ah_:=aW Tryz.t283.desc 1 8 Tryz.t283
noncomputable def aia:=aW Tryz.t284.desc 1 8 Tryz.t284
noncomputable def aib:=aW Tryz.t285.desc 1 8 Tryz.t285
noncomputable def aic:=aW Tryz.t286.desc 1 8 Tryz.t286
noncomputable def aid:=aW Tryz.t287.desc 1 8 Tryz.t287
noncomputable def aie:=aW Tryz.t288.desc 1 8 Tryz.t288
noncomputable def aif:=aW Tryz.t289.desc 1 8 Tryz.t289
noncomputable def aig:=aW Tryz.t290.desc 1 8 Tryz.t290
noncomputable def aih:=aW Tryz.t291.desc 1 24 Tryz.t291
noncomputable def aii:=aW Tryz.t292.desc 4 40 Tryz.t292
noncomputable def aij:=aW Tryz.t292.desc 4 40 Tryz.t293
noncomputable def aik:=aW Tryz.t294.desc 0 0 Tryz.t294
noncomputable def ail:=aW Tryz.t295.desc 0 0 Tryz.t295
noncomputable def aim:=aW Tryz.t295.desc 0 0 Tryz.t296
noncomputable def ain:=aW Tryz.t5.desc 1 1 Tryz.t297
noncomputable def aio:=aW Tryz.t5.desc 1 1 Tryz.t298
noncomputable def aip:=aW Tryz.t299.desc 1 8 Tryz.t299
noncomputable def aiq:=aW Tryz.t300.desc 1 8 Tryz.t300
noncomputable def air:=aW Tryz.t21.desc 1 4 Tryz.t301
noncomputable def ais:=aW Tryz.t21.desc 1 4 Tryz.t302
noncomputable def ait:=aW Tryz.t303.desc 11 48 Tryz.t303
noncomputable def aiu:=aW Tryz.t303.desc 11 48 Tryz.t304
noncomputable def tL {a:Type} (T i:Nat) (t:a):Option a:=bif Nat.beq T i then some t else none
noncomputable def tN {c:Type} (T i:Nat) (a b:Option c):Option c:=bif Nat.blt T i then a else b
noncomputable def vL (T:Nat):Option Ty:=(tN T 156 (tN T 80 (tN T 37 (tN T 19 (tN T 10 (tN T 6 (tN T 4 (tN T 3 (tL T 2 y2) (tL T 3 y3)) (tN T 5 (tL T 4 y4) (tL T 5 y5))) (tN T 8 (tN T 7 (tL T 6 y6) (tL T 7 y7)) (tN T 9 (tL T 8 y8) (tL T 9 y9)))) (tN T 14 (tN T 12 (tN T 11 (tL T 10 y10) (tL T 11 y11)) (tN T 13 (tL T 12 y12) (tL T 13 y13))) (tN T 16 (tN T 15 (tL T 14 y14) (tL T 15 y15)) (tN T 17 (tL T 16 y16) (tN T 18 (tL T 17 y17) (tL T 18 y18)))))) (tN T 28 (tN T 23 (tN T 21 (tN T 20 (tL T 19 y19) (tL T 20 y20)) (tN T 22 (tL T 21 y21) (tL T 22 y22))) (tN T 25 (tN T 24 (tL T 23 y23) (tL T 24 y24)) (tN T 26 (tL T 25 y25) (tN T 27 (tL T 26 y26) (tL T 27 y27))))) (tN T 32 (tN T 30 (tN T 29 (tL T 28 y28) (tL T 29 y29)) (tN T 31 (tL T 30 y30) (tL T 31 y31))) (tN T 34 (tN T 33 (tL T 32 y32) (tL T 33 y33)) (tN T 35 (tL T 34 y34) (tN T 36 (tL T 35 y35) (tL T 36 y36))))))) (tN T 58 (tN T 48 (tN T 41 (tN T 39 (tN T 38 (tL T 37 y37) (tL T 38 y38)) (tN T 40 (tL T 39 y39) (tL T 40 y40))) (tN T 43 (tN T 42 (tL T 41 y41) (tL T 42 y42)) (tN T 44 (tL T 43 y43) (tN T 46 (tL T 44 y44) (tL T 46 y46))))) (tN T 52 (tN T 50 (tN T 49 (tL T 48 y48) (tL T 49 y49)) (tN T 51 (tL T 50 y50) (tL T 51 y51))) (tN T 54 (tN T 53 (tL T 52 y52) (tL T 53 y53)) (tN T 56 (tL T 54 y54) (tN T 57 (tL T 56 y56) (tL T 57 y57)))))) (tN T 68 (tN T 62 (tN T 60 (tN T 59 (tL T 58 y58) (tL T 59 y59)) (tN T 61 (tL T 60 y60) (tL T 61 y61))) (tN T 65 (tN T 63 (tL T 62 y62) (tL T 63 y63)) (tN T 66 (tL T 65 y65) (tN T 67 (tL T 66 y66) (tL T 67 y67))))) (tN T 73 (tN T 71 (tN T 69 (tL T 68 y68) (tL T 69 y69)) (tN T 72 (tL T 71 y71) (tL T 72 y72))) (tN T 77 (tN T 75 (tL T 73 y73) (tL T 75 y75)) (tN T 78 (tL T 77 y77) (tN T 79 (tL T 78 y78) (tL T 79 y79)))))))) (tN T 119 (tN T 99 (tN T 89 (tN T 84 (tN T 82 (tN T 81 (tL T 80 y80) (tL T 81 y81)) (tN T 83 (tL T 82 y82) (tL T 83 y83))) (tN T 86 (tN T 85 (tL T 84 y84) (tL T 85 y85)) (tN T 88 (tL T 86 y86) (tL T 88 y88)))) (tN T 94 (tN T 92 (tN T 90 (tL T 89 y89) (tL T 90 y90)) (tN T 93 (tL T 92 y92) (tL T 93 y93))) (tN T 96 (tN T 95 (tL T 94 y94) (tL T 95 y95)) (tN T 97 (tL T 96 y96) (tN T 98 (tL T 97 y97) (tL T 98 y98)))))) (tN T 108 (tN T 103 (tN T 101 (tN T 100 (tL T 99 y99) (tL T 100 aeI)) (tN T 102 (tL T 101 aeJ) (tL T 102 aeK))) (tN T 105 (tN T 104 (tL T 103 aeL) (tL T 104 aeM)) (tN T 106 (tL T 105 aeN) (tN T 107 (tL T 106 aeO) (tL T 107 aeP))))) (tN T 113 (tN T 111 (tN T 109 (tL T 108 aeQ) (tL T 109 aeR)) (tN T 112 (tL T 111 aeS) (tL T 112 aeT))) (tN T 115 (tN T 114 (tL T 113 aeU) (tL T 114 aeV)) (tN T 117 (tL T 115 aeW) (tN T 118 (tL T 117 aeX) (tL T 118 aeY))))))) (tN T 138 (tN T 128 (tN T 123 (tN T 121 (tN T 120 (tL T 119 aeZ) (tL T 120 ae_)) (tN T 122 (tL T 121 afa) (tL T 122 afb))) (tN T 125 (tN T 124 (tL T 123 afc) (tL T 124 afd)) (tN T 126 (tL T 125 afe) (tN T 127 (tL T 126 aff) (tL T 127 afg))))) (tN T 132 (tN T 130 (tN T 129 (tL T 128 afh) (tL T 129 afi)) (tN T 131 (tL T 130 afj) (tL T 131 afk))) (tN T 135 (tN T 133 (tL T 132 afl) (tL T 133 afm)) (tN T 136 (tL T 135 afn) (tN T 137 (tL T 136 afo) (tL T 137 afp)))))) (tN T 147 (tN T 142 (tN T 140 (tN T 139 (tL T 138 afq) (tL T 139 afr)) (tN T 141 (tL T 140 afs) (tL T 141 afu))) (tN T 144 (tN T 143 (tL T 142 afv) (tL T 143 afw)) (tN T 145 (tL T 144 afx) (tN T 146 (tL T 145 afy) (tL T 146 afz))))) (tN T 151 (tN T 149 (tN T 148 (tL T 147 afA) (tL T 148 afB)) (tN T 150 (tL T 149 afC) (tL T 150 afD))) (tN T 153 (tN T 152 (tL T 151 afE) (tL T 152 afF)) (tN T 154 (tL T 153 afG) (tN T 155 (tL T 154 afH) (tL T 155 afI))))))))) (tN T 233 (tN T 194 (tN T 174 (tN T 165 (tN T 160 (tN T 158 (tN T 157 (tL T 156 afJ) (tL T 157 afK)) (tN T 159 (tL T 158 afL) (tL T 159 afM))) (tN T 162 (tN T 161 (tL T 160 afN) (tL T 161 afO)) (tN T 163 (tL T 162 afP) (tL T 163 afQ)))) (tN T 169 (tN T 167 (tN T 166 (tL T 165 afR) (tL T 166 afS)) (tN T 168 (tL T 167 afT) (tL T 168 afU))) (tN T 171 (tN T 170 (tL T 169 afV) (tL T 170 afW)) (tN T 172 (tL T 171 afX) (tN T 173 (tL T 172 afY) (tL T 173 afZ)))))) (tN T 185 (tN T 179 (tN T 176 (tN T 175 (tL T 174 af_) (tL T 175 aga)) (tN T 178 (tL T 176 agb) (tL T 178 agc))) (tN T 182 (tN T 180 (tL T 179 agd) (tL T 180 age)) (tN T 183 (tL T 182 agf) (tN T 184 (tL T 183 agh) (tL T 184 agi))))) (tN T 189 (tN T 187 (tN T 186 (tL T 185 agj) (tL T 186 agk)) (tN T 188 (tL T 187 agl) (tL T 188 agm))) (tN T 191 (tN T 190 (tL T 189 agn) (tL T 190 ago)) (tN T 192 (tL T 191 agp) (tN T 193 (tL T 192 agq) (tL T 193 agr))))))) (tN T 215 (tN T 204 (tN T 199 (tN T 196 (tN T 195 (tL T 194 ags) (tL T 195 agt)) (tN T 198 (tL T 196 agu) (tL T 198 agv))) (tN T 201 (tN T 200 (tL T 199 agw) (tL T 200 agx)) (tN T 202 (tL T 201 agy) (tN T 203 (tL T 202 agz) (tL T 203 agA))))) (tN T 210 (tN T 208 (tN T 207 (tL T 204 agB) (tL T 207 agC)) (tN T 209 (tL T 208 agD) (tL T 209 agE))) (tN T 212 (tN T 211 (tL T 210 agF) (tL T 211 agG)) (tN T 213 (tL T 212 agH) (tN T 214 (tL T 213 agI) (tL T 214 agJ)))))) (tN T 224 (tN T 219 (tN T 217 (tN T 216 (tL T 215 agK) (tL T 216 agL)) (tN T 218 (tL T 217 agM) (tL T 218 agN))) (tN T 221 (tN T 220 (tL T 219 agO) (tL T 220 agP)) (tN T 222 (tL T 221 agQ) (tN T 223 (tL T 222 agS) (tL T 223 agT))))) (tN T 228 (tN T 226 (tN T 225 (tL T 224 agU) (tL T 225 agV)) (tN T 227 (tL T 226 agW) (tL T 227 agX))) (tN T 230 (tN T 229 (tL T 228 agY) (tL T 229 agZ)) (tN T 231 (tL T 230 ag_) (tN T 232 (tL T 231 aha) (tL T 232 ahb)))))))) (tN T 269 (tN T 251 (tN T 242 (tN T 237 (tN T 235 (tN T 234 (tL T 233 ahc) (tL T 234 ahd)) (tN T 236 (tL T 235 ahe) (tL T 236 ahf))) (tN T 239 (tN T 238 (tL T 237 ahg) (tL T 238 ahh)) (tN T 240 (tL T 239 ahi) (tN T 241 (tL T 240 ahj) (tL T 241 ahk))))) (tN T 246 (tN T 244 (tN T 243 (tL T 242 ahl) (tL T 243 ahm)) (tN T 245 (tL T 244 ahn) (tL T 245 aho))) (tN T 248 (tN T 247 (tL T 246 ahp) (tL T 247 ahq)) (tN T 249 (tL T 248 ahr) (tN T 250 (tL T 249 ahs) (tL T 250 aht)))))) (tN T 260 (tN T 255 (tN T 253 (tN T 252 (tL T 251 ahu) (tL T 252 ahv)) (tN T 254 (tL T 253 ahw) (tL T 254 ahx))) (tN T 257 (tN T 256 (tL T 255 ahy) (tL T 256 ahz)) (tN T 258 (tL T 257 ahA) (tN T 259 (tL T 258 ahB) (tL T 259 ahC))))) (tN T 264 (tN T 262 (tN T 261 (tL T 260 ahD) (tL T 261 ahE)) (tN T 263 (tL T 262 ahF) (tL T 263 ahG))) (tN T 266 (tN T 265 (tL T 264 ahH) (tL T 265 ahI)) (tN T 267 (tL T 266 ahJ) (tN T 268 (tL T 267 ahK) (tL T 268 ahL))))))) (tN T 287 (tN T 278 (tN T 273 (tN T 271 (tN T 270 (tL T 269 ahM) (tL T 270 ahN)) (tN T 272 (tL T 271 ahO) (tL T 272 ahP))) (tN T 275 (tN T 274 (tL T 273 ahQ) (tL T 274 ahR)) (tN T 276 (tL T 275 ahS) (tN T 277 (tL T 276 ahT) (tL T 277 ahU))))) (tN T 282 (tN T 280 (tN T 279 (tL T 278 ahV) (tL T 279 ahW)) (tN T 281 (tL T 280 ahX) (tL T 281 ahY))) (tN T 284 (tN T 283 (tL T 282 ahZ) (tL T 283 ah_)) (tN T 285 (tL T 284 aia) (tN T 286 (tL T 285 aib) (tL T 286 aic)))))) (tN T 296 (tN T 291 (tN T 289 (tN T 288 (tL T 287 aid) (tL T 288 aie)) (tN T 290 (tL T 289 aif) (tL T 290 aig))) (tN T 293 (tN T 292 (tL T 291 aih) (tL T 292 aii)) (tN T 294 (tL T 293 aij) (tN T 295 (tL T 294 aik) (tL T 295 ail))))) (tN T 300 (tN T 298 (tN T 297 (tL T 296 aim) (tL T 297 ain)) (tN T 299 (tL T 298 aio) (tL T 299 aip))) (tN T 302 (tN T 301 (tL T 300 aiq) (tL T 301 air)) (tN T 303 (tL T 302 ais) (tN T 304 (tL T 303 ait) (tL T 304 aiu))))))))))
theorem bZ {T i s b:Nat} {u:TypeDesc} {I:TypeInfo} {d:Ty} (hu:Tryz.prog.underlying i=some u) (hi:Tryz.prog.types[i]? = some I) (hs:I.size=s:=by rfl) (hb':I.bytes=b:=by rfl) (hz:I.zero=some (zOf I):=by rfl):tL T i (aW u s b I)=some d->qW Tryz.prog T d:=by
 intro e
 unfold tL at e
 cases hb:Nat.beq T i with
 |true=>rw[hb]at e;cases e;rw[Nat.eq_of_beq_eq_true hb];exact⟨hu,I,ZG hi,hs,hb',hz⟩
 |false=>rw[hb]at e;cases e
theorem b_ {T i:Nat} {x y:Option Ty} {d:Ty} (a:x=some d->qW Tryz.prog T d) (b:y=some d->qW Tryz.prog T d):tN T i x y=some d->qW Tryz.prog T d:=by
 unfold tN
 cases Nat.blt T i
 ·exact b
 ·exact a
theorem ND {T:Nat} {d:Ty}:vL T=some d->qW Tryz.prog T d:=
 (b_ (b_ (b_ (b_ (b_ (b_ (b_ (b_ (bZ Tryz.underlying2 Tryz.type2) (bZ Tryz.underlying3 Tryz.type3)) (b_ (bZ Tryz.underlying4 Tryz.type4) (bZ Tryz.underlying5 Tryz.type5))) (b_ (b_ (bZ Tryz.underlying6 Tryz.type6) (bZ Tryz.underlying7 Tryz.type7)) (b_ (bZ Tryz.underlying8 Tryz.type8) (bZ Tryz.underlying9 Tryz.type9)))) (b_ (b_ (b_ (bZ Tryz.underlying10 Tryz.type10) (bZ Tryz.underlying11 Tryz.type11)) (b_ (bZ Tryz.underlying12 Tryz.type12) (bZ Tryz.underlying13 Tryz.type13))) (b_ (b_ (bZ Tryz.underlying14 Tryz.type14) (bZ Tryz.underlying15 Tryz.type15)) (b_ (bZ Tryz.underlying16 Tryz.type16) (b_ (bZ Tryz.underlying17 Tryz.type17) (bZ Tryz.underlying18 Tryz.type18)))))) (b_ (b_ (b_ (b_ (bZ Tryz.underlying19 Tryz.type19) (bZ Tryz.underlying20 Tryz.type20)) (b_ (bZ Tryz.underlying21 Tryz.type21) (bZ Tryz.underlying22 Tryz.type22))) (b_ (b_ (bZ Tryz.underlying23 Tryz.type23) (bZ Tryz.underlying24 Tryz.type24)) (b_ (bZ Tryz.underlying25 Tryz.type25) (b_ (bZ Tryz.underlying26 Tryz.type26) (bZ Tryz.underlying27 Tryz.type27))))) (b_ (b_ (b_ (bZ Tryz.underlying28 Tryz.type28) (bZ Tryz.underlying29 Tryz.type29)) (b_ (bZ Tryz.underlying30 Tryz.type30) (bZ Tryz.underlying31 Tryz.type31))) (b_ (b_ (bZ Tryz.underlying32 Tryz.type32) (bZ Tryz.underlying33 Tryz.type33)) (b_ (bZ Tryz.underlying34 Tryz.type34) (b_ (bZ Tryz.underlying35 Tryz.type35) (bZ Tryz.underlying36 Tryz.type36))))))) (b_ (b_ (b_ (b_ (b_ (bZ Tryz.underlying37 Tryz.type37) (bZ Tryz.underlying38 Tryz.type38)) (b_ (bZ Tryz.underlying39 Tryz.type39) (bZ Tryz.underlying40 Tryz.type40))) (b_ (b_ (bZ Tryz.underlying41 Tryz.type41) (bZ Tryz.underlying42 Tryz.type42)) (b_ (bZ Tryz.underlying43 Tryz.type43) (b_ (bZ Tryz.underlying44 Tryz.type44) (bZ Tryz.underlying46 Tryz.type46))))) (b_ (b_ (b_ (bZ Tryz.underlying48 Tryz.type48) (bZ Tryz.underlying49 Tryz.type49)) (b_ (bZ Tryz.underlying50 Tryz.type50) (bZ Tryz.underlying51 Tryz.type51))) (b_ (b_ (bZ Tryz.underlying52 Tryz.type52) (bZ Tryz.underlying53 Tryz.type53)) (b_ (bZ Tryz.underlying54 Tryz.type54) (b_ (bZ Tryz.underlying56 Tryz.type56) (bZ Tryz.underlying57 Tryz.type57)))))) (b_ (b_ (b_ (b_ (bZ Tryz.underlying58 Tryz.type58) (bZ Tryz.underlying59 Tryz.type59)) (b_ (bZ Tryz.underlying60 Tryz.type60) (bZ Tryz.underlying61 Tryz.type61))) (b_ (b_ (bZ Tryz.underlying62 Tryz.type62) (bZ Tryz.underlying63 Tryz.type63)) (b_ (bZ Tryz.underlying65 Tryz.type65) (b_ (bZ Tryz.underlying66 Tryz.type66) (bZ Tryz.underlying67 Tryz.type67))))) (b_ (b_ (b_ (bZ Tryz.underlying68 Tryz.type68) (bZ Tryz.underlying69 Tryz.type69)) (b_ (bZ Tryz.underlying71 Tryz.type71) (bZ Tryz.underlying72 Tryz.type72))) (b_ (b_ (bZ Tryz.underlying73 Tryz.type73) (bZ Tryz.underlying75 Tryz.type75)) (b_ (bZ Tryz.underlying77 Tryz.type77) (b_ (bZ Tryz.underlying78 Tryz.type78) (bZ Tryz.underlying79 Tryz.type79)))))))) (b_ (b_ (b_ (b_ (b_ (b_ (bZ Tryz.underlying80 Tryz.type80) (bZ Tryz.underlying81 Tryz.type81)) (b_ (bZ Tryz.underlying82 Tryz.type82) (bZ Tryz.underlying83 Tryz.type83))) (b_ (b_ (bZ Tryz.underlying84 Tryz.type84) (bZ Tryz.underlying85 Tryz.type85)) (b_ (bZ Tryz.underlying86 Tryz.type86) (bZ Tryz.underlying88 Tryz.type88)))) (b_ (b_ (b_ (bZ Tryz.underlying89 Tryz.type89) (bZ Tryz.underlying90 Tryz.type90)) (b_ (bZ Tryz.underlying92 Tryz.type92) (bZ Tryz.underlying93 Tryz.type93))) (b_ (b_ (bZ Tryz.underlying94 Tryz.type94) (bZ Tryz.underlying95 Tryz.type95)) (b_ (bZ Tryz.underlying96 Tryz.type96) (b_ (bZ Tryz.underlying97 Tryz.type97) (bZ Tryz.underlying98 Tryz.type98)))))) (b_ (b_ (b_ (b_ (bZ Tryz.underlying99 Tryz.type99) (bZ Tryz.underlying100 Tryz.type100)) (b_ (bZ Tryz.underlying101 Tryz.type101) (bZ Tryz.underlying102 Tryz.type102))) (b_ (b_ (bZ Tryz.underlying103 Tryz.type103) (bZ Tryz.underlying104 Tryz.type104)) (b_ (bZ Tryz.underlying105 Tryz.type105) (b_ (bZ Tryz.underlying106 Tryz.type106) (bZ Tryz.underlying107 Tryz.type107))))) (b_ (b_ (b_ (bZ Tryz.underlying108 Tryz.type108) (bZ Tryz.underlying109 Tryz.type109)) (b_ (bZ Tryz.underlying111 Tryz.type111) (bZ Tryz.underlying112 Tryz.type112))) (b_ (b_ (bZ Tryz.underlying113 Tryz.type113) (bZ Tryz.underlying114 Tryz.type114)) (b_ (bZ Tryz.underlying115 Tryz.type115) (b_ (bZ Tryz.underlying117 Tryz.type117) (bZ Tryz.underlying118 Tryz.type118))))))) (b_ (b_ (b_ (b_ (b_ (bZ Tryz.underlying119 Tryz.type119) (bZ Tryz.underlying120 Tryz.type120)) (b_ (bZ Tryz.underlying121 Tryz.type121) (bZ Tryz.underlying122 Tryz.type122))) (b_ (b_ (bZ Tryz.underlying123 Tryz.type123) (bZ Tryz.underlying124 Tryz.type124)) (b_ (bZ Tryz.underlying125 Tryz.type125) (b_ (bZ Tryz.underlying126 Tryz.type126) (bZ Tryz.underlying127 Tryz.type127))))) (b_ (b_ (b_ (bZ Tryz.underlying128 Tryz.type128) (bZ Tryz.underlying129 Tryz.type129)) (b_ (bZ Tryz.underlying130 Tryz.type130) (bZ Tryz.underlying131 Tryz.type131))) (b_ (b_ (bZ Tryz.underlying132 Tryz.type132) (bZ Tryz.underlying133 Tryz.type133)) (b_ (bZ Tryz.underlying135 Tryz.type135) (b_ (bZ Tryz.underlying136 Tryz.type136) (bZ Tryz.underlying137 Tryz.type137)))))) (b_ (b_ (b_ (b_ (bZ Tryz.underlying138 Tryz.type138) (bZ Tryz.underlying139 Tryz.type139)) (b_ (bZ Tryz.underlying140 Tryz.type140) (bZ Tryz.underlying141 Tryz.type141))) (b_ (b_ (bZ Tryz.underlying142 Tryz.type142) (bZ Tryz.underlying143 Tryz.type143)) (b_ (bZ Tryz.underlying144 Tryz.type144) (b_ (bZ Tryz.underlying145 Tryz.type145) (bZ Tryz.underlying146 Tryz.type146))))) (b_ (b_ (b_ (bZ Tryz.underlying147 Tryz.type147) (bZ Tryz.underlying148 Tryz.type148)) (b_ (bZ Tryz.underlying149 Tryz.type149) (bZ Tryz.underlying150 Tryz.type150))) (b_ (b_ (bZ Tryz.underlying151 Tryz.type151) (bZ Tryz.underlying152 Tryz.type152)) (b_ (bZ Tryz.underlying153 Tryz.type153) (b_ (bZ Tryz.underlying154 Tryz.type154) (bZ Tryz.underlying155 Tryz.type155))))))))) (b_ (b_ (b_ (b_ (b_ (b_ (b_ (bZ Tryz.underlying156 Tryz.type156) (bZ Tryz.underlying157 Tryz.type157)) (b_ (bZ Tryz.underlying158 Tryz.type158) (bZ Tryz.underlying159 Tryz.type159))) (b_ (b_ (bZ Tryz.underlying160 Tryz.type160) (bZ Tryz.underlying161 Tryz.type161)) (b_ (bZ Tryz.underlying162 Tryz.type162) (bZ Tryz.underlying163 Tryz.type163)))) (b_ (b_ (b_ (bZ Tryz.underlying165 Tryz.type165) (bZ Tryz.underlying166 Tryz.type166)) (b_ (bZ Tryz.underlying167 Tryz.type167) (bZ Tryz.underlying168 Tryz.type168))) (b_ (b_ (bZ Tryz.underlying169 Tryz.type169) (bZ Tryz.underlying170 Tryz.type170)) (b_ (bZ Tryz.underlying171 Tryz.type171) (b_ (bZ Tryz.underlying172 Tryz.type172) (bZ Tryz.underlying173 Tryz.type173)))))) (b_ (b_ (b_ (b_ (bZ Tryz.underlying174 Tryz.type174) (bZ Tryz.underlying175 Tryz.type175)) (b_ (bZ Tryz.underlying176 Tryz.type176) (bZ Tryz.underlying178 Tryz.type178))) (b_ (b_ (bZ Tryz.underlying179 Tryz.type179) (bZ Tryz.underlying180 Tryz.type180)) (b_ (bZ Tryz.underlying182 Tryz.type182) (b_ (bZ Tryz.underlying183 Tryz.type183) (bZ Tryz.underlying184 Tryz.type184))))) (b_ (b_ (b_ (bZ Tryz.underlying185 Tryz.type185) (bZ Tryz.underlying186 Tryz.type186)) (b_ (bZ Tryz.underlying187 Tryz.type187) (bZ Tryz.underlying188 Tryz.type188))) (b_ (b_ (bZ Tryz.underlying189 Tryz.type189) (bZ Tryz.underlying190 Tryz.type190)) (b_ (bZ Tryz.underlying191 Tryz.type191) (b_ (bZ Tryz.underlying192 Tryz.type192) (bZ Tryz.underlying193 Tryz.type193))))))) (b_ (b_ (b_ (b_ (b_ (bZ Tryz.underlying194 Tryz.type194) (bZ Tryz.underlying195 Tryz.type195)) (b_ (bZ Tryz.underlying196 Tryz.type196) (bZ Tryz.underlying198 Tryz.type198))) (b_ (b_ (bZ Tryz.underlying199 Tryz.type199) (bZ Tryz.underlying200 Tryz.type200)) (b_ (bZ Tryz.underlying201 Tryz.type201) (b_ (bZ Tryz.underlying202 Tryz.type202) (bZ Tryz.underlying203 Tryz.type203))))) (b_ (b_ (b_ (bZ Tryz.underlying204 Tryz.type204) (bZ Tryz.underlying207 Tryz.type207)) (b_ (bZ Tryz.underlying208 Tryz.type208) (bZ Tryz.underlying209 Tryz.type209))) (b_ (b_ (bZ Tryz.underlying210 Tryz.type210) (bZ Tryz.underlying211 Tryz.type211)) (b_ (bZ Tryz.underlying212 Tryz.type212) (b_ (bZ Tryz.underlying213 Tryz.type213) (bZ Tryz.underlying214 Tryz.type214)))))) (b_ (b_ (b_ (b_ (bZ Tryz.underlying215 Tryz.type215) (bZ Tryz.underlying216 Tryz.type216)) (b_ (bZ Tryz.underlying217 Tryz.type217) (bZ Tryz.underlying218 Tryz.type218))) (b_ (b_ (bZ Tryz.underlying219 Tryz.type219) (bZ Tryz.underlying220 Tryz.type220)) (b_ (bZ Tryz.underlying221 Tryz.type221) (b_ (bZ Tryz.underlying222 Tryz.type222) (bZ Tryz.underlying223 Tryz.type223))))) (b_ (b_ (b_ (bZ Tryz.underlying224 Tryz.type224) (bZ Tryz.underlying225 Tryz.type225)) (b_ (bZ Tryz.underlying226 Tryz.type226) (bZ Tryz.underlying227 Tryz.type227))) (b_ (b_ (bZ Tryz.underlying228 Tryz.type228) (bZ Tryz.underlying229 Tryz.type229)) (b_ (bZ Tryz.underlying230 Tryz.type230) (b_ (bZ Tryz.underlying231 Tryz.type231) (bZ Tryz.underlying232 Tryz.type232)))))))) (b_ (b_ (b_ (b_ (b_ (b_ (bZ Tryz.underlying233 Tryz.type233) (bZ Tryz.underlying234 Tryz.type234)) (b_ (bZ Tryz.underlying235 Tryz.type235) (bZ Tryz.underlying236 Tryz.type236))) (b_ (b_ (bZ Tryz.underlying237 Tryz.type237) (bZ Tryz.underlying238 Tryz.type238)) (b_ (bZ Tryz.underlying239 Tryz.type239) (b_ (bZ Tryz.underlying240 Tryz.type240) (bZ Tryz.underlying241 Tryz.type241))))) (b_ (b_ (b_ (bZ Tryz.underlying242 Tryz.type242) (bZ Tryz.underlying243 Tryz.type243)) (b_ (bZ Tryz.underlying244 Tryz.type244) (bZ Tryz.underlying245 Tryz.type245))) (b_ (b_ (bZ Tryz.underlying246 Tryz.type246) (bZ Tryz.underlying247 Tryz.type247)) (b_ (bZ Tryz.underlying248 Tryz.type248) (b_ (bZ Tryz.underlying249 Tryz.type249) (bZ Tryz.underlying250 Tryz.type250)))))) (b_ (b_ (b_ (b_ (bZ Tryz.underlying251 Tryz.type251) (bZ Tryz.underlying252 Tryz.type252)) (b_ (bZ Tryz.underlying253 Tryz.type253) (bZ Tryz.underlying254 Tryz.type254))) (b_ (b_ (bZ Tryz.underlying255 Tryz.type255) (bZ Tryz.underlying256 Tryz.type256)) (b_ (bZ Tryz.underlying257 Tryz.type257) (b_ (bZ Tryz.underlying258 Tryz.type258) (bZ Tryz.underlying259 Tryz.type259))))) (b_ (b_ (b_ (bZ Tryz.underlying260 Tryz.type260) (bZ Tryz.underlying261 Tryz.type261)) (b_ (bZ Tryz.underlying262 Tryz.type262) (bZ Tryz.underlying263 Tryz.type263))) (b_ (b_ (bZ Tryz.underlying264 Tryz.type264) (bZ Tryz.underlying265 Tryz.type265)) (b_ (bZ Tryz.underlying266 Tryz.type266) (b_ (bZ Tryz.underlying267 Tryz.type267) (bZ Tryz.underlying268 Tryz.type268))))))) (b_ (b_ (b_ (b_ (b_ (bZ Tryz.underlying269 Tryz.type269) (bZ Tryz.underlying270 Tryz.type270)) (b_ (bZ Tryz.underlying271 Tryz.type271) (bZ Tryz.underlying272 Tryz.type272))) (b_ (b_ (bZ Tryz.underlying273 Tryz.type273) (bZ Tryz.underlying274 Tryz.type274)) (b_ (bZ Tryz.underlying275 Tryz.type275) (b_ (bZ Tryz.underlying276 Tryz.type276) (bZ Tryz.underlying277 Tryz.type277))))) (b_ (b_ (b_ (bZ Tryz.underlying278 Tryz.type278) (bZ Tryz.underlying279 Tryz.type279)) (b_ (bZ Tryz.underlying280 Tryz.type280) (bZ Tryz.underlying281 Tryz.type281))) (b_ (b_ (bZ Tryz.underlying282 Tryz.type282) (bZ Tryz.underlying283 Tryz.type283)) (b_ (bZ Tryz.underlying284 Tryz.type284) (b_ (bZ Tryz.underlying285 Tryz.type285) (bZ Tryz.underlying286 Tryz.type286)))))) (b_ (b_ (b_ (b_ (bZ Tryz.underlying287 Tryz.type287) (bZ Tryz.underlying288 Tryz.type288)) (b_ (bZ Tryz.underlying289 Tryz.type289) (bZ Tryz.underlying290 Tryz.type290))) (b_ (b_ (bZ Tryz.underlying291 Tryz.type291) (bZ Tryz.underlying292 Tryz.type292)) (b_ (bZ Tryz.underlying293 Tryz.type293) (b_ (bZ Tryz.underlying294 Tryz.type294) (bZ Tryz.underlying295 Tryz.type295))))) (b_ (b_ (b_ (bZ Tryz.underlying296 Tryz.type296) (bZ Tryz.underlying297 Tryz.type297)) (b_ (bZ Tryz.underlying298 Tryz.type298) (bZ Tryz.underlying299 Tryz.type299))) (b_ (b_ (bZ Tryz.underlying300 Tryz.type300) (bZ Tryz.underlying301 Tryz.type301)) (b_ (bZ Tryz.underlying302 Tryz.type302) (b_ (bZ Tryz.underlying303 Tryz.type303) (bZ Tryz.underlying304 Tryz.type304))))))))))

noncomputable instance:cI Tryz.prog:=⟨vL,ND⟩
end Go.Sx
end
section
namespace Go.Sx
open Go.RowKit
section
section
variable {P:Program} {ops:Array Oper} {Q:Exit->Act->World->Prop}
def Od:Exit->Act->World->Prop:=fun _ _ _=>False
theorem Qe:¬LetsOut Od:=fun⟨_,_,h⟩=>h
theorem IC {o:Oper} {a:Act} {w:World} {K:Act->World->Prop} (h:o.wp P a w K Od):o.wp P a w K Q:=by
 unfold Oper.wp at *
 generalize (execOp a.eval o).run P w=r at *
 cases r with
 | ok n w' =>
  cases n<;>simp only[Oper.upon]at h ⊢ <;> first
   |exact h
   |exact Calls.mono h (fun e c b=>by cases e<;>first|exact b|exact absurd b Qe|exact b.elim)
 |halt x w'=>cases x<;>simp only[Oper.upon]at h ⊢ <;> first|exact h|exact h.elim
def SK (a b:Act) (d:Option Tmp):Prop:=∃u c,b=({a with defers:=c}:Act).put d u
theorem UI {o:Oper} {a:Act} {w:World} {K:Act->World->Prop} (h:o.wp P a w K Od):o.wp P a w (fun i w'=>K i w'∧SK a i o.dst) Od:=by
 unfold Oper.wp at *
 generalize (execOp a.eval o).run P w=r at *
 cases r with
 | ok n w' =>
  cases n<;>simp only[Oper.upon]at h ⊢
  case value v=>exact⟨h,v,a.defers,rfl⟩
  case skip=>exact⟨h,undef,a.defers,rfl⟩
  case defer d=>exact⟨h,undef,d::a.defers,rfl⟩
  case enter f args=>
   refine Calls.mono h fun e g b=> ?_
   cases e with
   |returned v=>exact⟨b,v,a.defers,rfl⟩
   |panicked c=>exact b
   |outgrown=>exact b
  case row row args=>exact Rows.mono h fun v g b=>⟨b,v,a.defers,rfl⟩
 |halt x w'=>cases x<;>simp only[Oper.upon]at h ⊢ <;> exact h
theorem M_ {o:Oper} {a:Act} {w:World} {K:Act->World->Prop} (h:o.wp P a w K Od):∃i w',K i w':=by
 unfold Oper.wp at *
 generalize (execOp a.eval o).run P w=r at *
 cases r with
 | ok n w' =>
  cases n<;>simp only[Oper.upon]at h
  case value v=>exact⟨_,_,h⟩
  case skip=>exact⟨_,_,h⟩
  case defer d=>exact⟨_,_,h⟩
  case enter f args=>
   obtain⟨e,g,j,b,_⟩:=h []
   cases e with
   |returned v=>exact⟨_,_,b⟩
   |panicked c=>exact b.elim
   |outgrown=>exact absurd b Qe
  case row row args=>
   obtain⟨v,g,b,_⟩:=h default []
   exact⟨_,_,b⟩
 |halt x w'=>cases x<;>simp only[Oper.upon]at h<;>exact h.elim
theorem Ql {o:Oper} {a:Act} {w:World} {K:Act->World->Prop} {d:Option Tmp} {v:Value} (p:∀cs b,o.op ≠ .select cs b) (m:∀t,d=some t->t∉o.looksAt ops) (g:∀t,d=some t->o.dst≠some t)
  (h:o.wp P a w K Od):o.wp P (a.put d v) w (fun l w'=>∃k,K k w'∧l=k.put d v) Od:=by
 unfold Oper.wp at *
 rw[execOp_put (ops:=ops) o p a d v m]
 have q:(a.put d v).defers=a.defers:=by cases d<;>rfl
 generalize (execOp a.eval o).run P w=r at *
 cases r with
 | ok n w' =>
  cases n<;>simp only[Oper.upon]at h ⊢
  case value u=>exact⟨_,h,Act.put_comm a v u g⟩
  case skip=>exact⟨_,h,Act.put_comm a v undef g⟩
  case defer e=>exact⟨_,h,by rw[Act.put_defers,Act.put_comm _ v undef g]⟩
  case enter f args=>
   refine Calls.mono h fun e j i=> ?_
   cases e with
   |returned u=>exact⟨_,i,Act.put_comm a v u g⟩
   |panicked c=>exact i
   |outgrown=>exact i
  case row row args=>exact Rows.mono h fun u j i=>⟨_,i,Act.put_comm a v u g⟩
 |halt x w'=>cases x<;>simp only[Oper.upon]at h ⊢ <;> exact h
theorem mL {o:Oper} {a:Act} {w:World} {K b:Act->World->Prop} (c:∀a w,K a w->b a w) (h:o.wp P a w K Od):o.wp P a w b Od:=Oper.wp_mono c h
def Mc (P:Program) (A:Nat->Nat->Bool) (i:Nat) (o:Oper) (a:Act) (w:World) (H:List (Nat×World)) (v:Value) (B:World->Prop):Prop:=
 B w∧(∀l∈H,A i l.1=false->B l.2)∧∀w',B w'->(execOp a.eval o).run P w' = .ok (.value v) w'
def RW (P:Program) (ops:Array Oper) (Q:Exit->Act->World->Prop) (A:Nat->Nat->Bool) (c:Nat->Bool) (d:Nat):List Nat->Act->World->List (Nat×World)->List (Nat×(World->Prop))->Prop
 | [],a,w,_,_=>Q .normal a w
 | i :: rest, a, w, H, Bs =>
  match ops[i]? with
  |none=>False
  | some o =>
   if Region.wanted o (yielded ops a.tmps)then
    (d<=i∧(o.wp P a w (fun e w'=>RW P ops Q A c d rest e w' H Bs) Q∨o.rnd P a w (fun e w'=>RW P ops Q A c d rest e w' H Bs)))∨
    (i<d∧c i=false∧∃v B,Mc P A i o a w H v B∧RW P ops Q A c d rest (a.put o.dst v) w H ((i,B)::Bs))∨
    (i<d∧c i=true∧o.wp P a w (fun e w'=>(∀b∈Bs,A i b.1=false->b.2 w')∧RW P ops Q A c d rest e w' ((i,w)::H) Bs) Od)
   else RW P ops Q A c d rest (a.put o.dst undef) w H Bs
variable {A:Nat->Nat->Bool} {loud:Nat->Bool} {k0:Nat}
theorem Wd:∀(L:List Nat) (a:Act) (w:World) (H:List (Nat×World)) (d c:List (Nat×(World->Prop))),(∀b∈c,b∈d)->RW P ops Q A loud k0 L a w H d->RW P ops Q A loud k0 L a w H c:=by
 intro L
 induction L with
 |nil=>intro a w H d c _ h;exact h
 | cons i L ih =>
  intro a w H d c e h
  simp only[RW]at h ⊢
  cases l:ops[i]? with
  |none=>simp[l]at h
  | some o =>
   simp only[l]at h ⊢
   split
   ·rename_i k
    rw[if_pos k]at h
    rcases h with⟨f,h2⟩|⟨f,h2,v,B,j,m⟩|⟨f,h2,j⟩
    ·refine .inl ⟨f,?_⟩
     rcases h2 with h2|h2
     ·exact .inl (Oper.wp_mono (fun a w h=>ih a w H d c e h) h2)
     ·exact .inr (Oper.rnd_mono (fun a w h=>ih a w H d c e h) h2)
    ·exact .inr (.inl ⟨f,h2,v,B,j,ih _ _ _ _ _ (fun b g=>by
      rcases List.mem_cons.1 g with rfl|g
      ·exact List.mem_cons_self
      ·exact List.mem_cons_of_mem _ (e b g)) m⟩)
    ·exact .inr (.inr ⟨f,h2,mL (fun a w h=>⟨fun b g=>h.1 b (e b g),ih a w _ d c e h.2⟩) j⟩)
   ·rename_i k
    rw[if_neg k]at h
    exact ih _ _ _ _ _ e h
structure Hw (ops:Array Oper) (A:Nat->Nat->Bool) (loud:Nat->Bool) (x i:Nat):Prop where
 na:A i x=false
 nb:A x i=false
 apart:∀ox oi,ops[x]? = some ox->ops[i]? = some oi->ox.apart ops oi=true
 one:loud x=false∨loud i=false
theorem JZ {a c:Act} {o:Oper} {d:Option Tmp} (g:∀cs b,o.op ≠ .select cs b) (h:∀t,d=some t->t∉o.looksAt ops) (f:SK a c d):execOp c.eval o=execOp a.eval o∧Region.wanted o (yielded ops c.tmps)=Region.wanted o (yielded ops a.tmps):=by
 obtain⟨u,e,rfl⟩:=f
 refine⟨(execOp_put (ops:=ops) o g {a with defers:=e} d u h).trans rfl,wanted_put o {a with defers:=e} d u h⟩
theorem Mc.of_exec {i:Nat} {o:Oper} {a b:Act} {w:World} {H:List (Nat×World)} {v:Value} {B:World->Prop} (h:Mc P A i o a w H v B) (e:execOp b.eval o=execOp a.eval o):Mc P A i o b w H v B:=by
 obtain⟨c,d,f⟩:=h
 exact⟨c,d,fun w' g=>by rw[e];exact f w' g⟩
theorem Dq (t:∀(i:Nat) (o:Oper),ops[i]? = some o->∀cs b,o.op ≠ .select cs b) {i:Nat} {o:Oper} {W:List Nat} (hi:ops[i]? = some o) (ad:i<k0) (aa:loud i=false):
  ∀(r:List Nat) (a:Act) (w:World) (H:List (Nat×World)) (G:List (Nat×(World->Prop))),(∀x∈r,Hw ops A loud x i∧x<k0)->RW P ops Q A loud k0 (r++i::W) a w H G->
   (Region.wanted o (yielded ops a.tmps)=false∧RW P ops Q A loud k0 (r++W) (a.put o.dst undef) w H G)∨
   (Region.wanted o (yielded ops a.tmps)=true∧∃v B,Mc P A i o a w H v B∧RW P ops Q A loud k0 (r++W) (a.put o.dst v) w H G):=by
 intro r
 induction r with
 | nil =>
  intro a w H G _ h
  simp only[List.nil_append,RW,hi]at h
  by_cases e:Region.wanted o (yielded ops a.tmps)=true
  ·rw[if_pos e]at h
   rcases h with⟨h,_⟩|⟨_,_,v,B,hv,h⟩|⟨_,h,_⟩
   ·omega
   ·exact .inr ⟨e,v,B,hv,Wd _ _ _ _ _ _ (fun b hb=>List.mem_cons_of_mem _ hb) h⟩
   ·rw[aa]at h;cases h
  ·rw[if_neg e]at h
   exact .inl ⟨by simpa using e,h⟩
 | cons x r ih =>
  intro a w H G hx h
  obtain⟨D,q⟩:=hx x List.mem_cons_self
  have k:∀y∈r,Hw ops A loud y i∧y<k0:=fun y hy=>hx y (List.mem_cons_of_mem _ hy)
  simp only[List.cons_append,RW]at h ⊢
  cases n:ops[x]? with
  |none=>simp[n]at h
  | some ox =>
   simp only[n]at h ⊢
   obtain⟨p1,p2,p3⟩:=Oper.apart_spec (D.apart ox o n hi)
   have S:=t i o hi
   have C:=t x ox n
   have q2:∀(d:Tmp),o.dst=some d->ox.dst≠some d:=fun d hd O=>p2 d O hd
   have ex:∀(b:Act) u,execOp (b.put o.dst u).eval ox=execOp b.eval ox:=fun b u=>execOp_put (ops:=ops) ox C b o.dst u p3
   have F:∀(b:Act) u,Region.wanted ox (yielded ops (b.put o.dst u).tmps)=Region.wanted ox (yielded ops b.tmps):=fun b u=>wanted_put ox b o.dst u p3
   have ei:∀(b:Act) u,execOp (b.put ox.dst u).eval o=execOp b.eval o:=fun b u=>execOp_put (ops:=ops) o S b ox.dst u p1
   have V:∀(b:Act) u,Region.wanted o (yielded ops (b.put ox.dst u).tmps)=Region.wanted o (yielded ops b.tmps):=fun b u=>wanted_put o b ox.dst u p1
   by_cases e:Region.wanted ox (yielded ops a.tmps)=true
   ·rw[if_pos e]at h
    rcases h with⟨h,_⟩|⟨_,f,U,Bx,T,h⟩|⟨_,f,h⟩
    ·omega
    ·rcases ih _ w H _ k h with⟨c,z⟩|⟨c,v,B,z,Z⟩
     ·rw[V]at c
      refine .inl ⟨c,?_⟩
      rw[if_pos (by rw[F];exact e)]
      exact .inr (.inl ⟨q,f,U,Bx,T.of_exec (ex a undef),by rw[<-Act.put_comm a U undef p2];exact z⟩)
     ·rw[V]at c
      refine .inr ⟨c,v,B,z.of_exec (ei a U).symm,?_⟩
      rw[if_pos (by rw[F];exact e)]
      exact .inr (.inl ⟨q,f,U,Bx,T.of_exec (ex a v),by rw[<-Act.put_comm a U v p2];exact Z⟩)
    ·have Y:=UI h
     obtain⟨a1,w1,⟨⟨_,ab⟩,m⟩⟩:=M_ Y
     have E:=fun {a':Act} (s:SK a a' ox.dst)=>JZ (ops:=ops) S p1 s
     rcases ih a1 w1 _ _ k ab with⟨c,_⟩|⟨c,v,B,⟨ac,J,L⟩,_⟩
     ·have j:Region.wanted o (yielded ops a.tmps)=false:=by rw[<-(E m).2];exact c
      refine .inl ⟨j,?_⟩
      rw[if_pos (by rw[F];exact e)]
      refine .inr (.inr ⟨q,f,?_⟩)
      refine mL ?_ (Ql (ops:=ops) (d:=o.dst) (v:=undef) C p3 q2 Y)
      rintro a2 w2 ⟨X,⟨⟨O,hr⟩,s⟩,rfl⟩
      refine⟨O,?_⟩
      rcases ih X w2 _ _ k hr with⟨_,h5⟩|⟨I,_⟩
      ·exact h5
      ·rw[(E s).2,j]at I;cases I
     ·have j:Region.wanted o (yielded ops a.tmps)=true:=by rw[<-(E m).2];exact c
      have N:B w:=J (x,w) List.mem_cons_self D.na
      have R:(execOp a.eval o).run P w = .ok (.value v) w:=by rw[<-(E m).1];exact L w N
      refine .inr ⟨j,v,B,⟨N,fun l s=>J l (List.mem_cons_of_mem _ s),fun w' p=>by rw[<-(E m).1];exact L w' p⟩,?_⟩
      rw[if_pos (by rw[F];exact e)]
      refine .inr (.inr ⟨q,f,?_⟩)
      refine mL ?_ (Ql (ops:=ops) (d:=o.dst) (v:=v) C p3 q2 Y)
      rintro a2 w2 ⟨X,⟨⟨O,hr⟩,s⟩,rfl⟩
      refine⟨O,?_⟩
      rcases ih X w2 _ _ k hr with⟨I,_⟩|⟨_,v',B',⟨_,K,M⟩,h5⟩
      ·rw[(E s).2,j]at I;cases I
      ·have g:=M w (K (x,w) List.mem_cons_self D.na)
       rw[(E s).1,R]at g
       cases g
       exact h5
   ·rw[if_neg e]at h
    have p:Region.wanted ox (yielded ops a.tmps)=false:=by simpa using e
    rcases ih _ w H _ k h with⟨c,z⟩|⟨c,v,B,z,Z⟩
    ·rw[V]at c
     refine .inl ⟨c,?_⟩
     rw[if_neg (by rw[F,p];simp),<-Act.put_comm a undef undef p2]
     exact z
    ·rw[V]at c
     refine .inr ⟨c,v,B,z.of_exec (ei a undef).symm,?_⟩
     rw[if_neg (by rw[F,p];simp),<-Act.put_comm a undef v p2]
     exact Z
theorem Et (t:∀(i:Nat) (o:Oper),ops[i]? = some o->∀cs b,o.op ≠ .select cs b) {i:Nat} {o:Oper} {S:List Nat} (W:ops[i]? = some o) (ab:i<k0) (I:loud i=true):
  ∀(q:List Nat) (a:Act) (w:World) (H:List (Nat×World)) (E:List (Nat×(World->Prop))),(∀x∈q,Hw ops A loud x i∧x<k0)->RW P ops Q A loud k0 (q++i::S) a w H E->
   (Region.wanted o (yielded ops a.tmps)=false∧RW P ops Q A loud k0 (q++S) (a.put o.dst undef) w H E)∨
   (Region.wanted o (yielded ops a.tmps)=true∧o.wp P a w (fun F w'=>(∀b∈E,A i b.1=false->b.2 w')∧RW P ops Q A loud k0 (q++S) F w' ((i,w)::H) E) Od):=by
 intro q
 induction q with
 | nil =>
  intro a w H E _ h
  simp only[List.nil_append,RW,W]at h
  by_cases j:Region.wanted o (yielded ops a.tmps)=true
  ·rw[if_pos j]at h
   rcases h with⟨h,_⟩|⟨_,h,_⟩|⟨_,_,h⟩
   ·omega
   ·rw[I]at h;cases h
   ·exact .inr ⟨j,h⟩
  ·rw[if_neg j]at h
   exact .inl ⟨by simpa using j,h⟩
 | cons x q ih =>
  intro a w H E hx h
  obtain⟨D,L⟩:=hx x List.mem_cons_self
  have M:∀y∈q,Hw ops A loud y i∧y<k0:=fun y hy=>hx y (List.mem_cons_of_mem _ hy)
  have C:loud x=false:=D.one.resolve_right (by rw[I];simp)
  simp only[List.cons_append,RW]at h ⊢
  cases m:ops[x]? with
  |none=>simp[m]at h
  | some ox =>
   simp only[m]at h ⊢
   obtain⟨p1,p2,p3⟩:=Oper.apart_spec (D.apart ox o m W)
   have Y:=t i o W
   have J:=t x ox m
   have ex:∀(b:Act) u,execOp (b.put o.dst u).eval ox=execOp b.eval ox:=fun b u=>execOp_put (ops:=ops) ox J b o.dst u p3
   have wx:∀(b:Act) u,Region.wanted ox (yielded ops (b.put o.dst u).tmps)=Region.wanted ox (yielded ops b.tmps):=fun b u=>wanted_put ox b o.dst u p3
   have O:∀(b:Act) u,Region.wanted o (yielded ops (b.put ox.dst u).tmps)=Region.wanted o (yielded ops b.tmps):=fun b u=>wanted_put o b ox.dst u p1
   have lx:=fun {F:Act} (G:SK a F o.dst)=>JZ (ops:=ops) J p3 G
   have s:∀(u:Value) (Z:Act->World->Prop),o.wp P (a.put ox.dst u) w Z Od->o.wp P a w (fun F w'=>SK a F o.dst∧Z (F.put ox.dst u) w') Od:=by
    intro u Z k
    unfold Oper.wp at *
    rw[execOp_put (ops:=ops) o Y a ox.dst u p1]at k
    generalize (execOp a.eval o).run P w=r at *
    cases r with
    | ok n w' =>
     cases n<;>simp only[Oper.upon]at k ⊢
     case value v=>exact⟨⟨v,a.defers,rfl⟩,by rw[<-Act.put_comm a u v p2];exact k⟩
     case skip=>exact⟨⟨undef,a.defers,rfl⟩,by rw[<-Act.put_comm a u undef p2];exact k⟩
     case defer e=>exact⟨⟨undef,e::a.defers,rfl⟩,by rw[<-Act.put_comm _ u undef p2,<-Act.put_defers];exact k⟩
     case enter f args=>
      refine Calls.mono k fun e aa g=> ?_
      cases e with
      |returned v=>exact⟨⟨v,a.defers,rfl⟩,by rw[<-Act.put_comm a u v p2];exact g⟩
      |panicked c=>exact g
      |outgrown=>exact g
     case row row args=>exact Rows.mono k fun v aa g=>⟨⟨v,a.defers,rfl⟩,by rw[<-Act.put_comm a u v p2];exact g⟩
    |halt y w'=>cases y<;>simp only[Oper.upon]at k ⊢ <;> exact k
   by_cases j:Region.wanted ox (yielded ops a.tmps)=true
   ·rw[if_pos j]at h
    rcases h with⟨h,_⟩|⟨_,_,N,R,K,h⟩|⟨_,h,_⟩
    ·omega
    ·rcases ih _ w H _ M h with⟨d,z⟩|⟨d,z⟩
     ·rw[O]at d
      refine .inl ⟨d,?_⟩
      rw[if_pos (by rw[wx];exact j)]
      exact .inr (.inl ⟨L,C,N,R,K.of_exec (ex a undef),by rw[<-Act.put_comm a N undef p2];exact z⟩)
     ·rw[O]at d
      refine .inr ⟨d,mL ?_ (s N _ z)⟩
      rintro a1 w1 ⟨G,g,X⟩
      refine⟨fun b hb=>g b (List.mem_cons_of_mem _ hb),?_⟩
      rw[if_pos (by rw[(lx G).2];exact j)]
      refine .inr (.inl ⟨L,C,N,R,?_,X⟩)
      obtain⟨T,U,V⟩:=K
      refine⟨g (x,R) List.mem_cons_self D.na,fun l B hA=> ?_,fun w' p=>by rw[(lx G).1];exact V w' p⟩
      rcases List.mem_cons.1 B with rfl|B
      ·exact T
      ·exact U l B hA
    ·rw[C]at h;cases h
   ·rw[if_neg j]at h
    have p:Region.wanted ox (yielded ops a.tmps)=false:=by simpa using j
    rcases ih _ w H _ M h with⟨d,z⟩|⟨d,z⟩
    ·rw[O]at d
     refine .inl ⟨d,?_⟩
     rw[if_neg (by rw[wx,p];simp),<-Act.put_comm a undef undef p2]
     exact z
    ·rw[O]at d
     refine .inr ⟨d,mL ?_ (s undef _ z)⟩
     rintro a1 w1 ⟨G,g,X⟩
     refine⟨g,?_⟩
     rw[if_neg (by rw[(lx G).2,p];simp)]
     exact X
end

def sE (o:Oper):List Nat:=(o.after.toList.filter (Region.binds .any)).map (·.on)
def oB (l:List Oper):List Nat:=l.foldl (fun a o=>a++[(sE o).foldl (fun s e=>s ||| 2^e ||| a.getD e 0) 0]) []
def before (m:List Nat) (i j:Nat):Bool:=(m.getD i 0).testBit j
def dY:Op->Bool
 | .move _ | .assign _ | .pick .. | .build .. | .load .. | .binOp .. | .unOp .. | .convert .. | .fieldAddr .. | .field .. | .indexAddr .. | .index .. | .lookup .. | .extract .. | .slice .. | .makeFunc .. | .nilCheck .. => false
 | .call ⟨.builtin .len,_,_⟩ | .call ⟨.builtin .max,_,_⟩ | .call ⟨.builtin .min,_,_⟩ | .call ⟨.builtin .cap,_,_⟩=>false
 |_=>true
def AJ:Op->Bool
 | .select .. => true
 |_=>false
def cK (l:List Oper) (i:Nat):Bool:=((l[i]?).map fun o=>dY o.op).getD false
def chk (l:List Oper) (m:List Nat) (b:Nat):Bool:=
  (List.range l.length).all fun i=>match l[i]? with
    |none=>false
    | some o =>
      (sE o).all (fun e=>Nat.blt e i&&before m i e&&(List.range i).all (fun k=> !before m e k||before m i k)) &&
      (List.range l.length).all (fun k=> !before m i k||(Nat.blt k i&&(sE o).any (fun e=>Nat.beq e k||before m e k))) &&
      !AJ o.op &&
      (if Nat.ble b i then(List.range i).all (fun x=>before m i x)
       else(List.range i).all (fun x=>before m i x||(match l[x]? with|none=>false|some a=>a.apart l.toArray o&&(!dY a.op || !dY o.op))))
end
section
structure Chk (l:List Oper) (m:List Nat) (k0:Nat):Prop where
 edge:∀(i:Nat) (o:Oper),l[i]? = some o->∀e∈sE o,e<i∧before m i e=true
 trans:∀(i:Nat) (o:Oper),l[i]? = some o->∀k,before m i k=true->k<l.length->k<i∧∃e∈sE o,e=k∨before m e k=true
 sel:∀(i:Nat) (o:Oper),l[i]? = some o->∀cs b,o.op ≠ .select cs b
 tail:∀i x,i<l.length->k0<=i->x<i->before m i x=true
 ind:∀(i x:Nat) (oi ox:Oper),l[i]? = some oi->l[x]? = some ox->i<k0->x<i->before m i x=false->ox.apart l.toArray oi=true∧(dY ox.op=false∨dY oi.op=false)
theorem aZ {b:Type} {l:List b} {i:Nat} {x:b} (h:l[i]? = some x):i<l.length:=by
 rcases Nat.lt_or_ge i l.length with a|a
 ·exact a
 ·rw[List.getElem?_eq_none a]at h;cases h
theorem TG {l:List Oper} {m:List Nat} {q:Nat} (h:chk l m q=true):Chk l m q:=by
  have a:∀(i:Nat) (o:Oper),l[i]? = some o->
      ((sE o).all (fun e=>Nat.blt e i&&before m i e&&(List.range i).all (fun k=> !before m e k||before m i k))=true)∧
      ((List.range l.length).all (fun k=> !before m i k||(Nat.blt k i&&(sE o).any (fun e=>Nat.beq e k||before m e k)))=true)∧AJ o.op=false∧
      ((if Nat.ble q i then(List.range i).all (fun x=>before m i x)
       else(List.range i).all (fun x=>before m i x||(match l[x]? with|none=>false|some r=>r.apart l.toArray o&&(!dY r.op || !dY o.op))))=true):=by
    intro i o c
    have:=List.all_eq_true.1 h i (List.mem_range.2 (aZ c))
    simp only[c,Bool.and_eq_true,Bool.not_eq_true']at this
    exact⟨this.1.1.1,this.1.1.2,this.1.2,this.2⟩
  refine⟨?_,?_,?_,?_,?_⟩
  · intro i o c e j
    have:=List.all_eq_true.1 (a i o c).1 e j
    simp only[Bool.and_eq_true,Nat.blt_eq]at this
    exact⟨this.1.1,this.1.2⟩
  · intro i o c k g d
    have:=List.all_eq_true.1 (a i o c).2.1 k (List.mem_range.2 d)
    simp only[g,Bool.not_true,Bool.false_or,Bool.and_eq_true,Nat.blt_eq,List.any_eq_true,Bool.or_eq_true]at this
    obtain⟨s,e,j,f⟩:=this
    refine⟨s,e,j,?_⟩
    rcases f with f|f
    · exact .inl (Nat.eq_of_beq_eq_true f)
    · exact .inr f
  · intro i o c cs b e
    have:=(a i o c).2.2.1
    rw[e]at this
    cases this
  · intro i x n g p
    obtain⟨o,c⟩:∃o,l[i]? = some o:=⟨_,List.getElem?_eq_getElem n⟩
    have:=(a i o c).2.2.2
    rw[if_pos (by simpa using g)]at this
    exact List.all_eq_true.1 this x (List.mem_range.2 p)
  · intro i x u r n p g d t
    have:=(a i u n).2.2.2
    rw[if_neg (by simpa using g)]at this
    have:=List.all_eq_true.1 this x (List.mem_range.2 d)
    simp only[t,Bool.false_or,p,Bool.and_eq_true,Bool.or_eq_true,Bool.not_eq_true']at this
    exact this
section
variable {P:Program} {Q:Exit->Act->World->Prop} {l:List Oper} {m:List Nat} {k0:Nat}
theorem RW.any (hc:Chk l m k0):∀(fuel:Nat) (L:List Nat) (c:Array Bool) (a:Act) (w:World) (H:List (Nat×World)) (W:List (Nat×(World->Prop))),
  L.length<=fuel->c.size=l.length->L.Pairwise (· < ·)->(∀i,i∈L↔i<l.length∧c.getD i true=false)->
  (∀j k,c.getD j false=true->before m j k=true->k<l.length->c.getD k false=true)->
  RW P l.toArray Q (before m) (cK l) k0 L a w H W->wpAny P .any l.toArray Q fuel c a w:=by
 intro fuel
 induction fuel with
 |zero=>
  intro L c a w H W I U n d N h
  have hL:L=[]:=List.eq_nil_of_length_eq_zero (by omega)
  subst hL
  refine⟨?_,h⟩
  rw[List.eq_nil_iff_forall_not_mem]
  intro i hi
  obtain⟨X,o,z,_⟩:=mem_ready.1 hi
  have:i<l.length:=by have:=(Array.getElem?_eq_some_iff.1 z).1;simpa using this
  have:=(d i).2 ⟨this,X⟩
  simp at this
 | succ fuel ih =>
  intro L c a w H W I U n d N h
  refine⟨fun D=> ?_,fun i hi=> ?_⟩
  ·cases L with
   |nil=>exact h
   | cons i L =>
    exfalso
    obtain⟨p,X⟩:=(d i).1 List.mem_cons_self
    obtain⟨o,z⟩:∃o,l[i]? = some o:=⟨_,List.getElem?_eq_getElem p⟩
    have:i∈Region.ready .any l.toArray c:=by
     refine mem_ready.2 ⟨X,o,by simpa using z,fun e he M=> ?_⟩
     have ah:e.on∈sE o:=List.mem_map.2 ⟨e,List.mem_filter.2 ⟨by simpa using he,M⟩,rfl⟩
     have an:=(hc.edge i o z e.on ah).1
     cases hg:c.getD e.on true with
     |false=>
      have hm:=(d e.on).2 ⟨by omega,hg⟩
      rcases List.mem_cons.1 hm with e1|e1
      ·omega
      ·have:=(List.pairwise_cons.1 n).1 _ e1;omega
     |true=>
      have:e.on<c.size:=by omega
      simp[this]at hg ⊢
      exact hg
    rw[D]at this
    simp at this
  ·obtain⟨X,o,af,O⟩:=mem_ready.1 hi
   have z:l[i]? = some o:=by simpa using af
   have p:i<l.length:=aZ z
   have ai:i∈L:=(d i).2 ⟨p,X⟩
   obtain⟨t,L2,rfl⟩:=List.append_of_mem ai
   have hs:=List.pairwise_append.1 n
   have A:∀x∈t,x<i:=fun x s=>hs.2.2 x s i List.mem_cons_self
   have Z:∀x∈L2,i<x:=fun x s=>(List.pairwise_cons.1 hs.2.1).1 x s
   have F:∀k,before m i k=true->k<l.length->c.getD k false=true:=by
    intro k V ae
    obtain⟨_,e,he,R⟩:=hc.trans i o z k V ae
    obtain⟨ed,ag,rfl⟩:=List.mem_map.1 he
    obtain⟨aa,ab⟩:=List.mem_filter.1 ag
    have hl:=O ed (by simpa using aa) ab
    rcases R with rfl|R
    ·exact hl
    ·exact N _ _ hl R ae
   have T:∀x∈t,before m i x=false:=by
    intro x s
    cases M:before m i x with
    |false=>rfl
    |true=>
     have E:=((d x).1 (by simp[s]))
     have:=F x M E.1
     have ak:x<c.size:=by omega
     simp[ak]at this E
     rw[this]at E
     simp at E
   -- the rest
   have next:∀u w' H' K,RW P l.toArray Q (before m) (cK l) k0 (t++L2) u w' H' K->wpAny P .any l.toArray Q fuel (c.setIfInBounds i true) u w':=by
    intro u w' H' K D
    refine ih (t++L2) _ u w' H' K ?_ (by simp[U]) ?_ ?_ ?_ D
    ·simp at I ⊢;omega
    ·exact List.pairwise_append.2 ⟨hs.1,(List.pairwise_cons.1 hs.2.1).2,fun x s y hy=>by have:=A x s;have:=Z y hy;omega⟩
    ·intro j
     by_cases e:i=j
     ·subst e
      constructor
      ·intro f
       rcases List.mem_append.1 f with f|f
       ·have:=A i f;omega
       ·have:=Z i f;omega
      ·rintro⟨_,f⟩
       simp[U,p]at f
     ·rw[getD_set_ne true e]
      have:=d j
      simp only[List.mem_append,List.mem_cons]at this ⊢
      constructor
      ·intro f;exact this.1 (by rcases f with f|f;exact .inl f;exact .inr (.inr f))
      ·intro f
       rcases this.2 f with f|rfl|f
       ·exact .inl f
       ·exact absurd rfl e
       ·exact .inr f
    ·intro j k f ad V
     by_cases e:i=j
     ·subst e;exact getD_set_true (F k ad V)
     ·rw[getD_set_ne false e]at f
      exact getD_set_true (N j k f ad V)
   have r:l.toArray[i]? = some o:=af
   by_cases V:k0<=i
   ·have Y:t=[]:=by
     cases t with
     |nil=>rfl
     |cons x t=>
      have g:=T x List.mem_cons_self
      have q:=hc.tail i x p V (A x List.mem_cons_self)
      rw[g]at q;cases q
    subst Y
    simp only[List.nil_append,RW,r]at h
    unfold wpOp
    simp only[r]
    split
    ·rename_i hw
     rw[if_pos hw]at h
     rcases h with⟨_,h|h⟩|⟨h,_⟩|⟨h,_⟩
     ·exact .inl (Oper.wp_mono (fun u w' D=>next u w' _ _ D) h)
     ·exact .inr (Oper.rnd_mono (fun u w' D=>next u w' _ _ D) h)
     ·omega
     ·omega
    ·rename_i hw
     rw[if_neg hw]at h
     exact next _ _ _ _ h
   ·have S:i<k0:=by omega
    have G:∀x∈t,Hw l.toArray (before m) (cK l) x i∧x<k0:=by
     intro x s
     have aj:=A x s
     obtain⟨ox,C⟩:∃ox,l[x]? = some ox:=⟨_,List.getElem?_eq_getElem (by omega)⟩
     have ac:=hc.ind i x o ox z C S aj (T x s)
     refine⟨⟨T x s,?_,?_,?_⟩,by omega⟩
     ·cases M:before m x i with
      |false=>rfl
      |true=>have:=(hc.trans x ox C i M p).1;omega
     ·intro am al g q
      have e1:ox=am:=by simpa [C]using g
      have e2:o=al:=by simpa [z]using q
      rw[<-e1,<-e2];exact ac.1
     ·rcases ac.2 with g|g
      ·exact .inl (by simp[cK,C,g])
      ·exact .inr (by simp[cK,z,g])
    have J:∀(i:Nat) (o:Oper),l.toArray[i]? = some o->∀cs b,o.op ≠ .select cs b:=fun i o h=>hc.sel i o (by simpa using h)
    unfold wpOp
    simp only[r]
    cases hl:cK l i with
    | false =>
     rcases Dq J r S hl t a w H W G h with⟨g,q⟩|⟨g,v,B,⟨M,_,D⟩,q⟩
     ·rw[g];exact next _ _ _ _ q
     ·rw[g]
      exact .inl (by simp only[Oper.wp,D w M,Oper.upon];exact next _ _ _ _ q)
    | true =>
     rcases Et J r S hl t a w H W G h with⟨g,q⟩|⟨g,q⟩
     ·rw[g];exact next _ _ _ _ q
     ·rw[g]
      exact .inl (IC (mL (fun u w' hh=>next u w' _ _ hh.2) q))
theorem Jd {f:Option Nat} {id:Nat} {a:Act} {w:World} (d:l.all iS=true) (e:P.follows .mixedOrders=true) (hc:chk l m k0=true)
  (h:RW P l.toArray Q (before m) (cK l) k0 (List.range l.length) a w.drew [] []):(Code.region id l.toArray true).wpr f P Q a w:=by
 refine CK d e ?_
 refine RW.any (TG hc) _ (List.range l.length) _ a _ [] [] (by simp) (by simp) List.pairwise_lt_range ?_ ?_ h
 ·intro i
  simp only[List.mem_range]
  constructor
  ·intro c;exact⟨c,by simp[c]⟩
  ·exact fun h=>h.1
 ·intro j k b
  simp[Array.getElem?_replicate]at b
  split at b<;>simp at b

def YB (c:tE):List (Nat×List aX×List aX)->List (Nat×World)->Prop
 | [],[]=>True
 |h::H,x::X=>h.1=x.1∧St c h.2.1 h.2.2 x.2∧YB c H X
 |_,_=>False
def NU (c:tE):List (Nat×List aX×List aX)->List (Nat×(World->Prop))->Prop
 | [],[]=>True
 |b::B,x::X=>x=(b.1,St c b.2.1 b.2.2)∧NU c B X
 |_,_=>False
def JR (c:tE) (n:Sz) (σ:Fr) (M L:List aX) (H b:List (Nat×List aX×List aX)) (G:Act->World->List (Nat×World)->List (Nat×(World->Prop))->Prop):Prop:=
 ∀a w X Y,DT n σ a->St c M L w->YB c H X->NU c b Y->G a w X Y
variable {c:tE} {n:Sz} {σ:Fr} {M L Mx Lx:List aX} {H Bs:List (Nat×List aX×List aX)}
theorem JR.start {e:Option Nat} {id:Nat} (m:List Nat) (k0:Nat) (d:P.follows .mixedOrders=true) (hc:chk l m k0=true)
  (h:JR c n σ M L [] [] (RW P l.toArray Q (before m) (cK l) k0 (List.range l.length))) (b:l.all iS=true:=by rfl):J c n σ M L ((Code.region id l.toArray true).wpr e P Q):=fun a w s t=>
 Jd b d hc (h a w.drew [] [] s (t.ext ((Below.refl _ _).drew)) trivial trivial)
structure Fu (M L Mx Lx:List aX):Prop where
 hM:aR M Mx
 hL:yK L Lx
theorem Fu.st {M L Mx Lx:List aX} (h:Fu M L Mx Lx) {w:World} (t:St c M L w):St c Mx Lx w:=t.weak h.hM h.hL
def aK (A:Nat->Bool) (Mx Lx:List aX):List (Nat×List aX×List aX)->Prop
 | []=>True
 |h::H=>(A h.1=true∨Fu h.2.1 h.2.2 Mx Lx)∧aK A Mx Lx H
def yG (A:Nat->Bool) (M L:List aX):List (Nat×List aX×List aX)->Prop
 | []=>True
 |b::B=>(A b.1=true∨Fu M L b.2.1 b.2.2)∧yG A M L B
theorem aK.use {A:Nat->Bool} {Mx Lx:List aX}:∀{H:List (Nat×List aX×List aX)} {X:List (Nat×World)},aK A Mx Lx H->YB c H X->∀x∈X,A x.1=false->St c Mx Lx x.2
 | [],[],_,_,x,a,_=>by simp at a
 | [],_::_,_,h,_,_,_=>h.elim
 |_::_,[],_,h,_,_,_=>h.elim
 | h :: H, y :: X, ho, hi, x, a, hA => by
  rcases List.mem_cons.1 a with rfl|a
  ·rcases ho.1 with b|b
   ·rw[hi.1,hA]at b;cases b
   ·exact b.st hi.2.1
  ·exact aK.use ho.2 hi.2.2 x a hA
theorem yG.use {A:Nat->Bool} {M L:List aX} {w:World} (t:St c M L w):∀{B:List (Nat×List aX×List aX)} {X:List (Nat×(World->Prop))},yG A M L B->NU c B X->∀x∈X,A x.1=false->x.2 w
 | [],[],_,_,x,a,_=>by simp at a
 | [],_::_,_,h,_,_,_=>h.elim
 |_::_,[],_,h,_,_,_=>h.elim
 | b :: B, y :: X, ho, hi, x, a, hA => by
  rcases List.mem_cons.1 a with rfl|a
  ·rcases ho.1 with d|d
   ·rw[hi.1]at hA;rw[d]at hA;cases hA
   ·rw[hi.1];exact d.st t
  ·exact yG.use t ho.2 hi.2 x a hA
theorem JR.quiet {i:Nat} {rest:List Nat} {d:Nat} {b:Op} {ty:TypeId} {pos:String} {aft:Array Edge} {v:Value} (Mx Lx:List aX)
  (g:l[i]? = some ⟨some d,b,ty,pos,aft,none⟩) (q:Nat.blt i k0=true) (r:dY b=false) (u:Y P c n σ Mx Lx ⟨some d,b,ty,pos,aft,none⟩ v) (k:Fu M L Mx Lx) (j:aK (before m i) Mx Lx H) (p:Nat.blt d n.sz=true)
  (h:JR c n ((d,v)::σ) M L H ((i,Mx,Lx)::Bs) (RW P l.toArray Q (before m) (cK l) k0 rest)):JR c n σ M L H Bs (RW P l.toArray Q (before m) (cK l) k0 (i::rest)):=fun a w X Y s t f o=>by
 have e:l.toArray[i]? = some ⟨some d,b,ty,pos,aft,none⟩:=by simpa using g
 simp only[RW,e]
 rw[if_pos (by simp[Region.wanted])]
 refine .inr (.inl ⟨by simpa [Nat.blt_eq]using q,by simp[cK,g,r],v,St c Mx Lx,⟨k.st t,j.use f,fun w' x=>u a w' s x⟩,h _ w X _ (s.put d v p) t f ⟨rfl,o⟩⟩)
theorem QY {i:Nat} {rest:List Nat} {d:Nat} {e:Op} {ty:TypeId} {pos:String} {aft:Array Edge} {j:Nat} {b:Bool} {v:Value} (Mx Lx:List aX)
  (k:l[i]? = some ⟨some d,e,ty,pos,aft,some (j,b)⟩) (x:Nat.blt i k0=true) (y:dY e=false) (u:gv l.toArray σ j=some b) (z:Y P c n σ Mx Lx ⟨some d,e,ty,pos,aft,some (j,b)⟩ v) (p:Fu M L Mx Lx) (o:aK (before m i) Mx Lx H) (r:Nat.blt d n.sz=true)
  (h:JR c n ((d,v)::σ) M L H ((i,Mx,Lx)::Bs) (RW P l.toArray Q (before m) (cK l) k0 rest)):JR c n σ M L H Bs (RW P l.toArray Q (before m) (cK l) k0 (i::rest)):=fun a w X Y s t g q=>by
 have f:l.toArray[i]? = some ⟨some d,e,ty,pos,aft,some (j,b)⟩:=by simpa using k
 simp only[RW,f]
 rw[if_pos (by simp[Region.wanted,wH s u])]
 refine .inr (.inl ⟨by simpa [Nat.blt_eq]using x,by simp[cK,k,y],v,St c Mx Lx,⟨p.st t,o.use g,fun w' A=>z a w' s A⟩,h _ w X _ (s.put d v r) t g ⟨rfl,q⟩⟩)
theorem bB {i:Nat} {rest:List Nat} {d:Nat} {g:Op} {ty:TypeId} {pos:String} {aft:Array Edge} {j:Nat} {b f:Bool}
  (u:l[i]? = some ⟨some d,g,ty,pos,aft,some (j,b)⟩) (r:gv l.toArray σ j=some f) (p:(f==b)=false) (q:Nat.blt d n.sz=true)
  (h:JR c n ((d,undef)::σ) M L H Bs (RW P l.toArray Q (before m) (cK l) k0 rest)):JR c n σ M L H Bs (RW P l.toArray Q (before m) (cK l) k0 (i::rest)):=fun a w X Y s t k o=>by
 have e:l.toArray[i]? = some ⟨some d,g,ty,pos,aft,some (j,b)⟩:=by simpa using u
 simp only[RW,e]
 rw[if_neg (by simp[Region.wanted,wH s r,p])]
 exact h _ w X Y (s.put d undef q) t k o
theorem JR.guard {i f:Nat} {rest:List Nat} {d:Option Tmp} {q:Op} {ty:TypeId} {pos:String} {aft:Array Edge} {j:Nat} {e b:Bool}
  (_:l[i]? = some ⟨d,q,ty,pos,aft,some (j,b)⟩) (_:(l[j]?).bind (·.dst)=some f) (k:lk σ f=some (.bool e))
  (p:e=true->JR c n ((f,.bool true)::σ) M L H Bs (RW P l.toArray Q (before m) (cK l) k0 (i::rest)))
  (o:e=false->JR c n ((f,.bool false)::σ) M L H Bs (RW P l.toArray Q (before m) (cK l) k0 (i::rest))):JR c n σ M L H Bs (RW P l.toArray Q (before m) (cK l) k0 (i::rest)):=by
 cases e
 ·exact fun a w X Y s t g h=>o rfl a w X Y (s.over (s.slot _ _ k)) t g h
 ·exact fun a w X Y s t g h=>p rfl a w X Y (s.over (s.slot _ _ k)) t g h
theorem AB {i a:Nat} {rest:List Nat} {d:Option Tmp} {q:Op} {ty:TypeId} {pos:String} {aft:Array Edge} {j:Nat} {p:Prop} {_:Decidable p} {b:Bool}
  (g:l[i]? = some ⟨d,q,ty,pos,aft,some (j,b)⟩) (k:(l[j]?).bind (·.dst)=some a) (f:lk σ a=some (.bool (decide p)))
  (o:p->JR c n ((a,.bool true)::σ) M L H Bs (RW P l.toArray Q (before m) (cK l) k0 (i::rest)))
  (e:¬p->JR c n ((a,.bool false)::σ) M L H Bs (RW P l.toArray Q (before m) (cK l) k0 (i::rest))):JR c n σ M L H Bs (RW P l.toArray Q (before m) (cK l) k0 (i::rest)):=
 JR.guard g k f (fun h=>o (of_decide_eq_true h)) (fun h=>e (of_decide_eq_false h))

def aI (P:Program) (c:tE) (n:Sz) (σ:Fr) (M L:List aX) (o:Oper) {A:Type} (b:A->Value) (M' L':A->List aX):Prop:=
 ∀a w,DT n σ a->St c M L w->o.wp P a w (fun d w'=>∃x:A,d=a.put o.dst (b x)∧St c (M' x) (L' x) w') Od
theorem aF {A:Type} {b:A->Value} {M' L':A->List aX} {ops:Array Oper} {rest:List Oper} {d:Nat} {e:Op} {ty:TypeId} {pos:String} {aft:Array Edge}
  (i:aI P c n σ M L ⟨some d,e,ty,pos,aft,none⟩ b M' L') (f:Nat.blt d n.sz=true) (h:∀x,J c n ((d,b x)::σ) (M' x) (L' x) (wpList P ops Q rest)):
  J c n σ M L (wpList P ops Q (⟨some d,e,ty,pos,aft,none⟩::rest)):=fun a w s t=>
 lO rfl (IC (mL (fun k w' ⟨x,g,j⟩=>by subst g;exact h x _ w' (s.put d _ f) j) (i a w s t)))
theorem tF {A:Type} {e:A->Value} {M' L':A->List aX} {ops:Array Oper} {rest:List Oper} {d:Nat} {f:Op} {ty:TypeId} {pos:String} {aft:Array Edge} {j:Nat} {b:Bool}
  (k:gv ops σ j=some b) (o:aI P c n σ M L ⟨some d,f,ty,pos,aft,some (j,b)⟩ e M' L') (g:Nat.blt d n.sz=true) (h:∀x,J c n ((d,e x)::σ) (M' x) (L' x) (wpList P ops Q rest)):
  J c n σ M L (wpList P ops Q (⟨some d,f,ty,pos,aft,some (j,b)⟩::rest)):=fun a w s t=>
 lO (by simp[Region.wanted,wH s k]) (IC (mL (fun q w' ⟨x,i,p⟩=>by subst i;exact h x _ w' (s.put d _ g) p) (o a w s t)))
theorem JR.loud {A:Type} {b:A->Value} {M' L':A->List aX} {i:Nat} {rest:List Nat} {d:Nat} {e:Op} {ty:TypeId} {pos:String} {aft:Array Edge}
  (j:l[i]? = some ⟨some d,e,ty,pos,aft,none⟩) (r:Nat.blt i k0=true) (u:dY e=true) (v:aI P c n σ M L ⟨some d,e,ty,pos,aft,none⟩ b M' L') (q:Nat.blt d n.sz=true)
  (o:∀x,yG (before m i) (M' x) (L' x) Bs) (h:∀x,JR c n ((d,b x)::σ) (M' x) (L' x) ((i,M,L)::H) Bs (RW P l.toArray Q (before m) (cK l) k0 rest)):
  JR c n σ M L H Bs (RW P l.toArray Q (before m) (cK l) k0 (i::rest)):=fun a w X Y s t p g=>by
 have f:l.toArray[i]? = some ⟨some d,e,ty,pos,aft,none⟩:=by simpa using j
 simp only[RW,f]
 rw[if_pos (by simp[Region.wanted])]
 refine .inr (.inr ⟨by simpa [Nat.blt_eq]using r,by simp[cK,j,u],mL ?_ (v a w s t)⟩)
 rintro y w' ⟨x,rfl,k⟩
 exact⟨(o x).use k g,h x _ w' _ Y (s.put d _ q) k ⟨rfl,t,p⟩ g⟩
theorem SH {A:Type} {e:A->Value} {M' L':A->List aX} {i:Nat} {rest:List Nat} {d:Nat} {f:Op} {ty:TypeId} {pos:String} {aft:Array Edge} {j:Nat} {b:Bool}
  (o:l[i]? = some ⟨some d,f,ty,pos,aft,some (j,b)⟩) (y:Nat.blt i k0=true) (z:dY f=true) (v:gv l.toArray σ j=some b) (B:aI P c n σ M L ⟨some d,f,ty,pos,aft,some (j,b)⟩ e M' L') (u:Nat.blt d n.sz=true)
  (q:∀x,yG (before m i) (M' x) (L' x) Bs) (h:∀x,JR c n ((d,e x)::σ) (M' x) (L' x) ((i,M,L)::H) Bs (RW P l.toArray Q (before m) (cK l) k0 rest)):
  JR c n σ M L H Bs (RW P l.toArray Q (before m) (cK l) k0 (i::rest)):=fun a w X Y s t r k=>by
 have g:l.toArray[i]? = some ⟨some d,f,ty,pos,aft,some (j,b)⟩:=by simpa using o
 simp only[RW,g]
 rw[if_pos (by simp[Region.wanted,wH s v])]
 refine .inr (.inr ⟨by simpa [Nat.blt_eq]using y,by simp[cK,o,z],mL ?_ (B a w s t)⟩)
 rintro C w' ⟨x,rfl,p⟩
 exact⟨(q x).use p k,h x _ w' _ Y (s.put d _ u) p ⟨rfl,t,r⟩ k⟩
theorem RW.tail {X:List (Nat×World)} {Y:List (Nat×(World->Prop))}:∀(r:List Nat) (os:List Oper),(∀i∈r,k0<=i)->r.map (l[·]?)=os.map some->∀a w,wpList P l.toArray Q os a w->RW P l.toArray Q (before m) (cK l) k0 r a w X Y
 | [],[],_,_,_,_,h=>h
 | [],_::_,_,e,_,_,_=>by simp at e
 |_::_,[],_,e,_,_,_=>by simp at e
 | i :: r, o :: os, hk, e, a, w, h => by
  simp only[List.map_cons,List.cons.injEq]at e
  have b:l.toArray[i]? = some o:=by simpa using e.1
  have f:=fun a w=>RW.tail (X:=X) (Y:=Y) r os (fun i g=>hk i (List.mem_cons_of_mem _ g)) e.2 a w
  simp only[RW,b]
  unfold wpList at h
  split
  ·rename_i d
   rw[if_pos d]at h
   refine .inl ⟨hk i List.mem_cons_self,?_⟩
   rcases h with h|h
   ·exact .inl (Oper.wp_mono (fun a w h=>f a w h) h)
   ·exact .inr (Oper.rnd_mono (fun a w h=>f a w h) h)
  ·rename_i d
   rw[if_neg d]at h
   exact f _ _ h
theorem JR.tail {r:List Nat} {os:List Oper} (e:r.all (Nat.ble k0)=true) (b:r.map (l[·]?)=os.map some) (h:J c n σ M L (wpList P l.toArray Q os)):JR c n σ M L H Bs (RW P l.toArray Q (before m) (cK l) k0 r):=
 fun a w _ _ s t _ _=>RW.tail r os (fun i d=>by simpa using List.all_eq_true.1 e i d) b a w (h a w s t)
end
end
section

structure cE (α:Type) where
 sz:Nat
 pos:0<sz
 enc:α->List Value
 len:∀x,(enc x).length=sz
def cE.int (k:IntKind):cE Int:=⟨1,Nat.one_pos,fun x=>[.int k x],fun _=>rfl⟩
def cE.bool:cE Bool:=⟨1,Nat.one_pos,fun x=>[.bool x],fun _=>rfl⟩
def cE.raw:cE Value:=⟨1,Nat.one_pos,fun x=>[x],fun _=>rfl⟩
def cellsOf {a:Type} (e:cE a) (xs:List a):List Value:=xs.flatMap e.enc
theorem dU {a:Type} (e:cE a) (xs:List a):(cellsOf e xs).length=xs.length*e.sz:=by
 induction xs with
 |nil=>simp[cellsOf]
 |cons x xs b=>simp only[cellsOf,List.flatMap_cons,List.length_append,e.len,List.length_cons,Nat.add_mul]at *;omega
theorem uI {b:Type} (e:cE b) (xs:List b):∀(i:Nat) (x:b),xs[i]? = some x->∀j u,(e.enc x)[j]? = some u->(cellsOf e xs)[i*e.sz+j]? = some u:=by
 induction xs with
 |nil=>intro i x h;simp at h
 | cons y xs ih =>
  intro i x h j u a
  simp only[cellsOf,List.flatMap_cons]
  cases i with
  |zero=>
   simp at h;subst h
   rw[List.getElem?_append_left (by have:=aZ a;omega)]
   simpa using a
  |succ i=>
   simp only[List.getElem?_cons_succ]at h
   rw[List.getElem?_append_right (by rw[e.len,Nat.add_mul];omega),e.len]
   have:(i+1)*e.sz+j - e.sz=i*e.sz+j:=by rw[Nat.add_mul];omega
   rw[this]
   exact ih i x h j u a
theorem uT {a:Type} (e:cE a) (xs ys:List a):cellsOf e (xs++ys)=cellsOf e xs++cellsOf e ys:=by simp[cellsOf]

def BX {d:Type} (e:cE d) (w:World) (F:Nat->Prop) (v:Value) (xs:List d):Prop:=
 xs.length<=140737488355328∧(cellsOf e xs).all one=true∧((v = .slice none 0 0∧xs=[])∨∃b c cap T,∃a:Array Value,v = .slice (some ⟨b,c,none⟩) xs.length cap∧F b∧w.heap[b]? = some (.cells a T (0,0))∧
  xs.length<=cap∧c+cap*e.sz<=a.size∧(a.toList.drop c).take (xs.length*e.sz)=cellsOf e xs)
def Ar {f:Type} (e:cE f) (v:Value) (xs:List f):aX where
 p w F:=BX e w F v xs
 mono:=fun⟨g,i,h⟩ m=>⟨g,i,by
  rcases h with h|⟨b,c,cap,T,a,n,l,d,r⟩
  ·exact .inl h
  ·obtain⟨j,k⟩:=m b l (Array.getElem?_eq_some_iff.1 d).1
   exact .inr ⟨b,c,cap,T,a,n,j,by rw[k];exact d,r⟩⟩
section
variable {α:Type} {e:cE α} {w:World} {F:Nat->Prop} {v:Value} {xs:List α}
theorem BX.cell (h:BX e w F v xs) {i:Nat} {x:α} (c:xs[i]? = some x) {j:Nat} {u:Value} (k:(e.enc x)[j]? = some u):w.cell? (Je v (i*e.sz+j))=some u:=by
 obtain⟨_,_,h⟩:=h
 rcases h with⟨_,h⟩|⟨b,m,cap,T,d,l,_,f,n,hc,g⟩
 ·subst h;simp at c
 ·have a:=uI e xs i x c j u k
  rw[<-g,List.getElem?_take]at a
  split at a
  ·rw[List.getElem?_drop]at a
   subst l
   simp only[Je,eG]
   simp[World.cell?,f]
   simpa using a
  ·cases a
theorem LM (h:BX e w F v xs) (f:xs≠[]) (o:Nat):w.frozen? (Je v o)=false:=by
 obtain⟨_,_,h⟩:=h
 rcases h with⟨_,h⟩|⟨b,g,cap,T,a,d,_,c,_⟩
 ·exact absurd h f
 ·subst d;simp only[Je,eG];simp[World.frozen?,c]
end
section
variable {P:Program} {rd:Option Nat} {c:tE} {n:Sz} {σ:Fr} {M L:List aX} {Q:Exit->Act->World->Prop} {ops:Array Oper} {rest:List Oper}
variable {d:Option Tmp} {D:Nat} {ty:TypeId} {pos:String} {aft:Array Edge} {g:Option (Nat×Bool)}
variable {α:Type} {e:cE α}
theorem YJ [cI P] (i:Nat) {T E:TypeId} {o p:Nat} {z:Value} {x:Operand} {v:Value} {xs:List α} (j:ev σ x=some v) (l:M[i]? = some (Ar e v xs))
  (f:cI.tab P T=some ⟨.slice E,o,p,z⟩):Y P c n σ M L ⟨d,.call ⟨.builtin .len,#[x],#[T]⟩,ty,pos,aft,g⟩ (.int .i64 xs.length):=fun a w s t=>by
 obtain⟨S,_,_,h⟩:=t.res l
 rcases h with⟨rfl,rfl⟩|⟨b,m,cap,T',k,rfl,_⟩
 ·have:=E_ w (cI.ok f) rfl none 0 0 ty
  simp[execOp,resolve,invoke,builtin,s.eval j,this]
 ·simp[execOp,resolve,invoke,builtin,s.eval j,E_ w (cI.ok f) rfl]
theorem gH [cI P] (j:Nat) {T E:TypeId} {C F l G:Nat} {z H:Value} {o:TypeDesc} {x y:Operand} {v:Value} {i:Int} {xs:List α} (A:ev σ x=some v) (B:ev σ y=some (.int .i64 i)) (u:M[j]? = some (Ar e v xs))
  (r:cI.tab P T=some ⟨.slice E,C,F,z⟩) (q:cI.tab P E=some ⟨o,l,G,H⟩) (p:0<=i) (k:i<xs.length):
  Y P c n σ M L ⟨d,.indexAddr T x y,ty,pos,aft,g⟩ (CS v (i.toNat*l)):=fun a w s t=>by
 obtain⟨S,_,_,h⟩:=t.res u
 rcases h with⟨rfl,rfl⟩|⟨b,f,cap,T',m,rfl,_⟩
 ·simp at k;omega
 ·simp[execOp,s.eval A,s.eval B,FY w (cI.ok r) rfl (cI.ok q) b f _ cap i p k]
theorem We [cI P] [Inhabited α] (j:Nat) {T:TypeId} {B q o:Nat} {z:Value} {b:TypeDesc} {x:Operand} {v:Value} {i:Int} {xs:List α} {u:Value} (A:ev σ x=some (CS v (i.toNat*q+o))) (p:M[j]? = some (Ar e v xs))
  (l:cI.tab P T=some ⟨b,1,B,z⟩) (m:wD b=false) (r:e.sz=q) (y:(e.enc (at' xs i))[o]? = some u) (f:0<=i) (k:i<xs.length):
  Y P c n σ M L ⟨d,.load T x,ty,pos,aft,g⟩ u:=fun a w s t=>by
 obtain⟨S,h⟩:=t.res p
 have:=BX.cell h (iI f k) y
 rw[r]at this
 simp[execOp,s.eval A,CS,wP (cI.ok l) m this]
theorem S_ [cI P] [Inhabited α] (j:Nat) {T:TypeId} {s:Nat} {z:Value} {a:TypeDesc} {x:Operand} {v:Value} {i:Int} {xs:List α} {u:Value} (r:ev σ x=some (CS v (i.toNat*1))) (l:M[j]? = some (Ar e v xs))
  (h:cI.tab P T=some ⟨a,1,s,z⟩) (k:wD a=false) (m:e.sz=1) (p:(e.enc (at' xs i))[0]? = some u) (b:0<=i) (f:i<xs.length):
  Y P c n σ M L ⟨d,.load T x,ty,pos,aft,g⟩ u:=We j (q:=1) (o:=0) r l h k m p b f
theorem uU {xs:List α} (b:e.sz=1) {i:Nat} {y:α} {u:Value} (f:e.enc y=[u]):cellsOf e (xs.set i y)=(cellsOf e xs).set i u:=by
 induction xs generalizing i with
 |nil=>simp[cellsOf]
 | cons x xs ih =>
  obtain⟨p,a⟩:∃p,e.enc x=[p]:=by
   have:=e.len x
   rw[b]at this
   exact List.length_eq_one_iff.1 this
  cases i with
  |zero=>simp[cellsOf,a,f]
  |succ i=>simp only[List.set_cons_succ,cellsOf,List.flatMap_cons,a,List.singleton_append]at *;rw[ih]
theorem take_set {a:Type} (l:List a) (k i:Nat) (u:a):(l.set i u).take k=(l.take k).set i u:=by
 rw[List.take_set]
theorem LV [cI P] (j:Nat) {T:TypeId} {s2:Nat} {z:Value} {Y:TypeDesc} {x y:Operand} {v u:Value} {i:Int} {xs:List α} (X:α) (W:ev σ x=some (CS v (i.toNat*1))) (hy:ev σ y=some u) (V:e.enc X=[u]) (o:one u=true)
  (S:M[j]? = some (Ar e v xs)) (Z:cI.tab P T=some ⟨Y,1,s2,z⟩) (G:e.sz=1) (h0:0<=i) (R:i<xs.length)
  (h:J c n σ (M.set j (Ar e v (xs.set i.toNat X))) L (wpList P ops Q rest)):
  J c n σ M L (wpList P ops Q (⟨none,.store T x y,ty,pos,aft,none⟩::rest)):=fun a w s t=>by
 refine lO rfl ?_
 obtain⟨F,E⟩:=t.res S
 have U:i.toNat<xs.length:=by omega
 have A:xs[i.toNat]? = some xs[i.toNat]:=List.getElem?_eq_getElem U
 have B:xs≠[]:=by intro e;subst e;simp at U
 obtain⟨p,hp⟩:∃p,e.enc xs[i.toNat]=[p]:=List.length_eq_one_iff.1 ((e.len _).trans G)
 have f:=BX.cell E A (j:=0) (u:=p) (by rw[hp];rfl)
 rw[G,Nat.add_zero,Nat.mul_one]at f
 rw[Nat.mul_one]at W
 have m:=LM E B i.toNat
 have C:(execOp a.eval ⟨none,.store T x y,ty,pos,aft,none⟩).run P w = .ok .skip (w.setCell (Je v i.toNat) u):=by
  simp only[execOp,s.eval W,s.eval hy,CS]
  simp[BB (cI.ok Z) rfl o f m]
 simp only[Oper.wp,C,Oper.upon]
 refine h _ _ s (t.upd S rfl rfl rfl (by simp[World.setCell]) fun F E _=> ?_)
 obtain⟨hl,R,K⟩:=E
 rcases K with⟨_,K⟩|⟨b,l,cap,T',H,hv,r,hb,hk,hc,ht⟩
 ·exact absurd K B
 ·subst hv
  have ha:Je (.slice (some ⟨b,l,none⟩) xs.length cap) i.toNat=⟨b,l+i.toNat,none⟩:=by simp[Je,eG]
  rw[ha]
  refine⟨fun k _ N=>Below.heap_setCell _ _ _ _ (fun e=>N (by simp only at e;subst e;exact r)),F,⟨by simpa using hl,?_,.inr ⟨b,l,cap,T',H.setIfInBounds (l+i.toNat) u,by simp,r,?_,by simpa using hk,by simpa using hc,?_⟩⟩,fun _ h=> .inl h⟩
  ·rw[uU G V,List.all_eq_true]
   intro q O
   rcases List.mem_or_eq_of_mem_set O with I|I
   ·exact List.all_eq_true.1 R q I
   ·rw[I];exact o
  ·simp[World.setCell,Array.getElem?_modify,hb]
  ·rw[uU G V,<-ht,Array.toList_setIfInBounds,List.length_set,<-take_set]
   congr 1
   rw[List.drop_set,if_neg (by omega),Nat.add_sub_cancel_left]

theorem St.allocAr {w:World} (t:St c M L w) (cs:List Value) (T:TypeId) {xs:List α} {k:Nat} (h:xs.length=k) (o:xs.length<=140737488355328) (hc:cs=cellsOf e xs) (j:(cellsOf e xs).all one=true):
  St c (Ar e (.slice (some ⟨w.heap.size,0,none⟩) k k) xs::M) L (w.alloc (.cells cs.toArray T)):=by
 have q:=t.alloc cs T
 obtain⟨p,F,a,l⟩:=q
 refine⟨p,F,⟨fun i m b=> ?_,a.rng,a.dis⟩,l⟩
 cases i with
 | zero =>
  simp at b;subst b
  have f:=a.res 0 _ rfl
  refine⟨o,j,.inr ⟨w.heap.size,0,k,T,cs.toArray,by rw[h],f.1,f.2,by omega,?_,?_⟩⟩
  ·simp only[Nat.zero_add,List.size_toArray,hc,dU,h];exact Nat.le_refl _
  ·simp only[List.drop_zero,hc]
   rw[List.take_of_length_le (by rw[dU];exact Nat.le_refl _)]
 |succ i=>exact a.res (i+1) m (by simpa using b)
theorem aI.buildSlice [cI P] {T E:TypeId} {k s1 s2 s3 s4:Nat} {z z':Value} {dE:TypeDesc} {ps:List (Nat×Operand)} {vs:List (Nat×Value)} (xs:List α)
    (hT:cI.tab P T=some ⟨.slice E,s1,s2,z⟩) (hE:cI.tab P E=some ⟨dE,s3,s4,z'⟩) (hs:Nat.ble (k*s3) 16777216=true) (hv:ps.map (fun p=>(p.1,ev σ p.2))=vs.map (fun p=>(p.1,some p.2)))
    (hfill:∀init:Array Value,init.size=k*s3->Instr.fill (fun i=>some (i*s3,s3)) init vs=some (cellsOf e xs).toArray)
    (hk:xs.length=k) (hl:Nat.ble xs.length 140737488355328=true) (h1:(cellsOf e xs).all one=true):
    aI P c n σ M L ⟨d,.buildSlice T k ps.toArray,ty,pos,aft,g⟩ (fun b:Nat=> .slice (some ⟨b,0,none⟩) k k) (fun b=>Ar e (.slice (some ⟨b,0,none⟩) k k) xs::M) (fun _=>L):=fun a w s t=>by
  have hps:ps.map (fun p=>(p.1,a.eval p.2))=vs:=by
    clear hfill
    induction ps generalizing vs with
    |nil=>cases vs<;>simp_all
    | cons p ps ih =>
      cases vs with
      |nil=>simp at hv
      | cons q vs =>
        simp only[List.map_cons,List.cons.injEq,Prod.mk.injEq]at hv
        simp only[List.map_cons,s.eval hv.1.2,hv.1.1,ih hv.2]
  have hsz : ¬ (16777216 < k * s3) := by have : k * s3 ≤ 16777216 := by simpa using hs
                                         omega
  have hrun:(execOp a.eval ⟨d,.buildSlice T k ps.toArray,ty,pos,aft,g⟩).run P w = .ok (.value (.slice (some ⟨w.heap.size,0,none⟩) k k)) (w.alloc (.cells (cellsOf e xs).toArray E)):=by
    simp only[execOp,List.map_toArray,hps,Instr.buildSlice]
    by_cases h0:k*s3=0
    · have hf:=hfill ((Array.range (k*s3)).map ((#[]:Array Value)[· % (#[]:Array Value).size]!)) (by simp)
      simp[(cI.ok hT).run_und w,(cI.ok hE).run_size w,h0]at hf ⊢
      simp[hf,newRow]
    · have hf:=hfill ((Array.range (k*s3)).map (z'.cells[· % z'.cells.size]!)) (by simp)
      simp[(cI.ok hT).run_und w,(cI.ok hE).run_size w,(cI.ok hE).run_zero w,h0,hsz,hf,newRow]
  simp only[Oper.wp,hrun,Oper.upon]
  exact⟨w.heap.size,rfl,t.allocAr (cellsOf e xs) E hk (by simpa using hl) rfl h1⟩
theorem aI.makeSlice [cI P] {T E:TypeId} {J K p q:Nat} {z j:Value} {r:TypeDesc} {x:Operand} {k:Int} (xs:List α)
  (B:cI.tab P T=some ⟨.slice E,J,K,z⟩) (A:cI.tab P E=some ⟨r,p,q,j⟩) (H:ev σ x=some (.int .i64 k)) (u:0<=k) (C:(q:Int)*k<=281474976710656) (y:k<=140737488355328)
  (F:xs.length=k.toNat) (I:(madeCells j.cells (k.toNat*p)).toList=cellsOf e xs) (v:(cellsOf e xs).all one=true):
  aI P c n σ M L ⟨d,.makeSlice T x x,ty,pos,aft,g⟩ (fun b:Nat=> .slice (some ⟨b,0,none⟩) k.toNat k.toNat) (fun b=>Ar e (.slice (some ⟨b,0,none⟩) k.toNat k.toNat) xs::M) (fun _=>L):=fun a w s t=>by
 obtain⟨o,l,m,f,i⟩:=(cI.ok A).info
 simp only at m f i
 have G:=run_make (P:=P) w T E o j (cI.ok B).und l i .i64 .i64 k k u (Int.le_refl _) (by rw[f];exact C) (by omega)
 have h:(execOp a.eval ⟨d,.makeSlice T x x,ty,pos,aft,g⟩).run P w = .ok (.value (.slice (some ⟨w.heap.size,0,none⟩) k.toNat k.toNat)) (w.alloc (.cells (cellsOf e xs).toArray E)):=by
  simp only[execOp,s.eval H]
  have:madeCells j.cells (k.toNat*o.size)=(cellsOf e xs).toArray:=by rw[<-I,m]
  simp[G,this]
 simp only[Oper.wp,h,Oper.upon]
 exact⟨w.heap.size,rfl,t.allocAr (cellsOf e xs) E F (by omega) rfl v⟩

theorem Np {T ty E:TypeId} {q i:Ty} {w:World} (t:qW P T q) (v:q.desc = .slice E) (s:qW P E i) {b a k cap:Nat} {f:Array Value} {T':TypeId} (u:w.heap[b]? = some (.cells f T' (0,0))) {m:Nat} {x:Value} {o:List Value} (p:Src P i.size T x m o w)
  (h:k+m<=cap) (hc:a+cap*i.size<=f.size):
  (Builtin.append_ #[T,T] ty #[.slice (some ⟨b,a,none⟩) k cap,x]).run P w = .ok (.slice (some ⟨b,a,none⟩) (k+m) cap) (w.setRow b (f.toList.take (a+k*i.size)++o++f.toList.drop (a+k*i.size+o.length)).toArray):=by
 have j:a+k*i.size+0+o.length<=f.size:=by
  rw[p.newsLen]
  have:=Nat.mul_le_mul_right i.size h
  rw[Nat.add_mul]at this
  omega
 have l:=run_storeCells_at P b (a+k*i.size) T' o 0 f w u j p.one
 simp only[Nat.add_zero]at l
 have r:=t.run_und w
 rw[v]at r
 simp[Builtin.append_,r,s.run_size w,p.len,h,p.cells,eG,l]
theorem Nn {T ty E:TypeId} {p b:Ty} {w:World} (t:qW P T p) (v:p.desc = .slice E) (s:qW P E b) {base:Option Addr} {k cap:Nat} {a:List Value}
  (h:(Builtin.firstCells b.size k (.slice base k cap)).run P w.drew = .ok a.toArray w.drew) {m:Nat} {x:Value} {o:List Value} (y:Src P b.size T x m o w) (q:cap<k+m) (u:(k+m)*b.bytes<=140737488355328) (r:k+m<=140737488355328):
  (Builtin.append_ #[T,T] ty #[.slice base k cap,x]).run P w = .ok (.slice (some ⟨w.heap.size,0,none⟩) (k+m) (grownCap w (k+m) cap E))
   (w.drew.alloc (.cells ((a++o).toArray++Builtin.zeroCells b.zero.cells (grownCap w (k+m) cap E - (k+m))) E)):=by
 obtain⟨A,l,i,j,z⟩:=s.info
 have f:=growslice_fits (need:=k+m) (old:=cap) (bytes:=b.bytes) q u
 exact run_append_grow_src w T T ty E A b.zero (by rw[t.und,v]) l z base k cap a (by rw[i];exact h) x m o (by rw[i];exact y) q (by omega) (by rw[j];exact f)
theorem BX.src [cI P] {w:World} {F:Nat->Prop} {v:Value} {xs:List α} {T E:TypeId} {q r:Nat} {z:Value} (h:BX e w F v xs) (i:cI.tab P T=some ⟨.slice E,q,r,z⟩):Src P e.sz T v xs.length (cellsOf e xs) w:=by
 obtain⟨_,l,h⟩:=h
 have f:∀u∈cellsOf e xs,u.oneCell'=true:=fun u a=>nW (List.all_eq_true.1 l u a)
 rcases h with⟨rfl,rfl⟩|⟨b,p,cap,T',k,rfl,_,m,s,hc,o⟩
 ·exact Src.ofNil w (cI.ok i).und 0
 ·refine Src.ofSlice w (cI.ok i).und _ _ _ _ (dU e xs) (fun j u a=> ?_) f
  rw[<-o,List.getElem?_take]at a
  split at a
  ·rw[List.getElem?_drop]at a
   rw[eG]
   simp[World.cell?,m]
   simpa using a
  ·cases a
theorem BX.old [cI P] {w:World} {F:Nat->Prop} {v:Value} {xs:List α} (h:BX e w F v xs):∃base cap,v = .slice base xs.length cap∧(Builtin.firstCells e.sz xs.length v).run P w.drew = .ok (cellsOf e xs).toArray w.drew:=by
 obtain⟨_,o,h⟩:=h
 rcases h with⟨rfl,rfl⟩|⟨b,m,cap,T',f,rfl,_,k,p,hc,l⟩
 ·exact⟨none,0,rfl,run_firstCells_none w.drew e.sz 0 0 0⟩
 ·refine⟨_,cap,rfl,run_firstCells_some w.drew e.sz xs.length _ _ _ _ (dU e xs) (fun j u a=> ?_)⟩
  rw[<-l,List.getElem?_take]at a
  split at a
  ·rw[List.getElem?_drop]at a
   rw[eG]
   have i:w.drew.heap[b]? = some (.cells f T' (0,0)):=k
   simp[World.cell?,i]
   simpa using a
  ·cases a
theorem Ru (b:List Value) (a len:Nat) (f:List Value) (h:a+len+f.length<=b.length):
  ((b.take (a+len)++f++b.drop (a+len+f.length)).drop a).take (len+f.length)=(b.drop a).take len++f:=by
 have i:a+len - a=len:=by omega
 have j:((b.drop a).take len).length=len:=by simp;omega
 rw[List.append_assoc,List.drop_append_of_le_length (by simp;omega),List.drop_take,i,List.take_append,j,List.take_of_length_le (by omega)]
 have k:len+f.length - len=f.length:=by omega
 rw[k,List.take_append_of_le_length (Nat.le_refl _),List.take_of_length_le (Nat.le_refl _)]
structure aaN (w w':World) (F F':Nat->Prop):Prop where
 os:w'.os=w.os
 tape:w'.tape=w.tape
 out:w'.output=w.output
 size:w.heap.size<=w'.heap.size
 same:∀k,k<w.heap.size->¬F k->w'.heap[k]? = w.heap[k]?
 sub:∀k,F' k->F k∨(w.heap.size<=k∧k<w'.heap.size)
theorem BX.append [cI P] {w:World} {F:Nat->Prop} {v x:Value} {xs ys:List α} {T E ty:TypeId} {s1 s2 R:Nat} {z U:Value} {V:TypeDesc} (i:BX e w F v xs) (u:Src P e.sz T x ys.length (cellsOf e ys) w) (y:(cellsOf e ys).all one=true)
  (C:cI.tab P T=some ⟨.slice E,s1,s2,z⟩) (A:cI.tab P E=some ⟨V,e.sz,R,U⟩) (W:(xs.length+ys.length)*R<=140737488355328) (J:xs.length+ys.length<=140737488355328) (hz:U.cells.size=e.sz):
  ∃S w' F',(Builtin.append_ #[T,T] ty #[v,x]).run P w = .ok S w'∧BX e w' F' S (xs++ys)∧aaN w w' F F':=by
 have j:(cellsOf e (xs++ys)).all one=true:=by
  rw[uT,List.all_append,i.2.1,y];rfl
 obtain⟨base,cap,rfl,s⟩:=BX.old (P:=P) i
 by_cases a:xs.length+ys.length<=cap
 ·have B:=i
  obtain⟨_,_,X⟩:=i
  rcases X with⟨N,rfl⟩|⟨b,o,O,T',f,N,p,q,t,hc,Y⟩
  ·cases N
   have hy:ys=[]:=List.eq_nil_of_length_eq_zero (by simpa using a)
   subst hy
   refine⟨.slice none 0 0,w,F,?_,B,⟨rfl,rfl,rfl,Nat.le_refl _,fun _ _ _=>rfl,fun _ h=> .inl h⟩⟩
   have Z:=(cI.ok C).run_und w
   have l:=u.len w
   have m:=u.cells
   simp only[List.length_nil]at l m
   have G:cellsOf e ([]:List α)=[]:=rfl
   rw[G]at m
   simp[Builtin.append_,Z,(cI.ok A).run_size w,l,m]
  ·cases N
   have K:=Np (P:=P) (ty:=ty) (cI.ok C) rfl (cI.ok A) q u a hc
   have r:o+xs.length*e.sz+(cellsOf e ys).length<=f.toList.length:=by
    rw[dU]
    have:=Nat.mul_le_mul_right e.sz a
    rw[Nat.add_mul]at this
    simp;omega
   refine⟨_,_,F,K,⟨by simpa using J,j,.inr ⟨b,o,cap,T',_,by simp,p,setRow_heap w b _ _ T' _ q,by simpa using a,?_,?_⟩⟩,⟨rfl,rfl,rfl,by simp,fun k _ I=>setRow_other w b k _ (fun e=>I (by subst e;exact p)),fun _ h=> .inl h⟩⟩
   ·simp only[List.size_toArray,List.length_append,List.length_take,List.length_drop]
    have:f.size=f.toList.length:=by simp
    omega
   ·have:=Ru f.toList o (xs.length*e.sz) (cellsOf e ys) r
    rw[List.length_append,Nat.add_mul,<-dU e ys,uT,<-Y]
    exact this
 ·have K:=Nn (P:=P) (ty:=ty) (cI.ok C) rfl (cI.ok A) s u (by omega) W J
  have H:=grownCap_ge w (xs.length+ys.length) cap E
  refine⟨_,_,fun k=>k=w.heap.size,K,⟨by simpa using J,j,.inr ⟨w.heap.size,0,grownCap w (xs.length+ys.length) cap E,E,_,by simp,rfl,heap_alloc_new w.drew _,by simpa using H,?_,?_⟩⟩,
   ⟨rfl,rfl,rfl,by simp,fun k t _=>Below.heap_alloc w.drew _ k t,fun k t=> .inr ⟨by omega,by subst t;simp⟩⟩⟩
  ·simp only[Nat.zero_add,Array.size_append,List.size_toArray,List.length_append,dU,size_zeroCells,hz]
   rw[<-Nat.add_mul,<-Nat.add_mul]
   exact Nat.mul_le_mul_right _ (by omega)
  ·simp only[List.drop_zero,Array.toList_append,List.length_append]
   rw[<-uT,List.take_append_of_le_length (by rw[dU];simp),List.take_of_length_le (by rw[dU];simp)]
theorem St.append [cI P] {w:World} (t:St c M L w) {i:Nat} {v x:Value} {xs ys:List α} {T E ty:TypeId} {F G l:Nat} {z m:Value} {o:TypeDesc} (k:M[i]? = some (Ar e v xs)) (B:Src P e.sz T x ys.length (cellsOf e ys) w) (f:(cellsOf e ys).all one=true)
  (r:cI.tab P T=some ⟨.slice E,F,G,z⟩) (q:cI.tab P E=some ⟨o,e.sz,l,m⟩) (s:(xs.length+ys.length)*l<=140737488355328) (u:xs.length+ys.length<=140737488355328) (C:m.cells.size=e.sz):
  ∃b w',(Builtin.append_ #[T,T] ty #[v,x]).run P w = .ok b w'∧St c (M.set i (Ar e b (xs++ys))) L w':=by
 have H:=t
 obtain⟨y,I,j,h⟩:=H
 obtain⟨b,w',F',A,p,a⟩:=BX.append (ty:=ty) (j.res i _ k) B f r q s u C
 refine⟨b,w',A,?_⟩
 exact Hb y j h k a.os a.tape a.out a.size a.same p a.sub
end
end
section
section
variable {P:Program} {rd:Option Nat} {c:tE} {n:Sz} {σ:Fr} {M L:List aX} {Q:Exit->Act->World->Prop} {ops:Array Oper} {rest:List Oper}
variable {d:Option Tmp} {D:Nat} {ty:TypeId} {pos:String} {aft:Array Edge} {g:Option (Nat×Bool)}
variable {α:Type} {e:cE α}
theorem aI.alloc [cI P] {T:TypeId} {h:Ty} {cs:List Value} (i:cI.tab P T=some h) (j:h.zero.cells=cs.toArray):
  aI P c n σ M L ⟨d,.alloc T,ty,pos,aft,g⟩ (fun b:Nat=> .pointer (some ⟨b,0,none⟩)) (fun b=>bL b cs T::M) (fun _=>L):=fun a w s t=>by
 have f:(execOp a.eval ⟨d,.alloc T,ty,pos,aft,g⟩).run P w = .ok (.value (.pointer (some ⟨w.heap.size,0,none⟩))) (w.alloc (.cells cs.toArray T)):=by
  simp[execOp,FX w (cI.ok i),j]
 simp only[Oper.wp,f,Oper.upon]
 exact⟨w.heap.size,rfl,t.alloc cs T⟩
theorem aI.box {T:TypeId} {x:Operand} {v:Value} {cs:List Value} (h:ev σ x=some v) (i:v.cells=cs.toArray):
  aI P c n σ M L ⟨d,.box T x,ty,pos,aft,g⟩ (fun b:Nat=> .pointer (some ⟨b,0,none⟩)) (fun b=>bL b cs T::M) (fun _=>L):=fun a w s t=>by
 have f:(execOp a.eval ⟨d,.box T x,ty,pos,aft,g⟩).run P w = .ok (.value (.pointer (some ⟨w.heap.size,0,none⟩))) (w.alloc (.cells cs.toArray T)):=by
  simp[execOp,s.eval h,Instr.box,newVar,newRow,i]
 simp only[Oper.wp,f,Oper.upon]
 exact⟨w.heap.size,rfl,t.alloc cs T⟩
theorem aI.call {A:Type} {j:A->Value} {k LO:A->List aX->List aX} {f:FuncId} {xs:List Operand} {vs:List Value} {b:Array TypeId} {p:List aX} (u:aP P f)
  (z:aU P f vs.toArray p j k LO) (C:xs.map (ev σ)=vs.map some) (r:yK L p) (o:∀x l,k x l=k x []++l) (m:∀x l,LO x l=LO x []++l):
  aI P c n σ M L ⟨d,.call ⟨.value (.func f),xs.toArray,b⟩,ty,pos,aft,g⟩ j (fun x=>k x M) (fun x=>LO x L):=fun a w s t=>by
 have i:(execOp a.eval ⟨d,.call ⟨.value (.func f),xs.toArray,b⟩,ty,pos,aft,g⟩).run P w = .ok (.enter f vs.toArray) w:=by
  have e:=ZA s C
  simp[execOp,resolve,Act.eval,Deferred.ofValue,invoke,u _ w,e]
 simp only[Oper.wp,i,Oper.upon]
 obtain⟨y,F,q,h⟩:=t
 refine(z w (De c F) (fun f v=>h f (r f v))).mono ?_
 rintro e w' ⟨x,rfl,B⟩
 refine⟨x,rfl,?_⟩
 rw[o,m]
 exact St.call y q h B
theorem Bz [cI P] {x y:Operand} {T:TypeId} {b f:Value} {a:Act} (s:DT n σ a) (h:ev σ x=some b) (i:ev σ y=some f) (w:World):
  (execOp a.eval ⟨d,.call ⟨.builtin .append,#[x,y],#[T,T]⟩,ty,pos,aft,g⟩).run P w=((Builtin.append_ #[T,T] ty #[b,f]).run P w).andThen fun v w'=> .ok (.value v) w':=by
 simp[execOp,resolve,invoke,builtin,s.eval h,s.eval i]
theorem aI.append [cI P] (i j:Nat) {x y:Operand} {v u:Value} {xs ys:List α} {T E:TypeId} {N O f l:Nat} {z m:Value} {o:TypeDesc} (I:ev σ x=some v) (J:ev σ y=some u) (A:M[i]? = some (Ar e v xs)) (B:M[j]? = some (Ar e u ys))
  (k:cI.tab P T=some ⟨.slice E,N,O,z⟩) (q:cI.tab P E=some ⟨o,f,l,m⟩) (p:e.sz=f) (r:(xs.length+ys.length)*l<=140737488355328) (C:xs.length+ys.length<=140737488355328) (K:m.cells.size=f):
  aI P c n σ M L ⟨d,.call ⟨.builtin .append,#[x,y],#[T,T]⟩,ty,pos,aft,g⟩ (fun b:Value=>b) (fun b=>M.set i (Ar e b (xs++ys))) (fun _=>L):=fun a w s t=>by
 subst p
 obtain⟨F,h⟩:=t.res B
 obtain⟨b,w',G,H⟩:=t.append (ty:=ty) A (BX.src h k) h.2.1 k q r C K
 simp only[Oper.wp,Bz s I J w,G,Result.andThen_ok,Oper.upon]
 exact⟨b,rfl,H⟩

theorem KG.src [cI P] {K:Type} {r:eM K} {w:World} {S:Nat->Prop} {v:Value} {xs:List K} {T E:TypeId} {X Y:Nat} {z:Value} (h:KG r w S v xs) (I:cI.tab P T=some ⟨.slice E,X,Y,z⟩) (W:∀{w S l x},r.R w S l x->l.all one=true):
  ∃cs,Src P r.sz T v xs.length cs w∧cs.all one=true∧cs.length=xs.length*r.sz∧∀i x,xs[i]? = some x->∃l,r.R w S l x∧∀j u,l[j]? = some u->cs[i*r.sz+j]? = some u:=by
 obtain⟨a,cap,rfl,O,h⟩:=h
 rcases h with rfl|⟨b,q,rfl,_,h⟩
 ·cases a with
  |none=>
   refine⟨[],?_,rfl,by simp,fun i x m=>by simp at m⟩
   exact Src.ofNil w (cI.ok I).und cap
  |some a=>
   refine⟨[],?_,rfl,by simp,fun i x m=>by simp at m⟩
   exact Src.ofSlice w (cI.ok I).und a 0 cap [] (by simp) (fun j u f=>by simp at f) (fun u f=>by simp at f)
 ·
  have J:∀(ys:List K) (k:Nat),(∀i x,ys[i]? = some x->∃l,(∀j e,l[j]? = some e->w.cell? ⟨b,q+((k+i)*r.sz+j),none⟩=some e)∧r.R w S l x)->
    ∃cs:List Value,cs.all one=true∧cs.length=ys.length*r.sz∧(∀j u,cs[j]? = some u->w.cell? ⟨b,q+(k*r.sz+j),none⟩=some u)∧∀i x,ys[i]? = some x->∃l,r.R w S l x∧∀j u,l[j]? = some u->cs[i*r.sz+j]? = some u:=by
   intro ys
   induction ys with
   |nil=>intro k _;exact⟨[],rfl,by simp,fun j u f=>by simp at f,fun i x m=>by simp at m⟩
   | cons y ys ih =>
    intro k N
    obtain⟨l,t,o⟩:=N 0 y rfl
    obtain⟨cs,B,C,G,H⟩:=ih (k+1) (fun i x m=>by
     obtain⟨s,A,p⟩:=N (i+1) x (by simpa using m)
     refine⟨s,fun j u f=> ?_,p⟩
     have:=A j u f
     rwa[show k+(i+1)=k+1+i from by omega]at this)
    have F:=r.len o
    refine⟨l++cs,by rw[List.all_append,W o,B];rfl,by rw[List.length_append,C,F,List.length_cons,Nat.add_mul];omega,?_,?_⟩
    ·intro j u f
     by_cases V:j<l.length
     ·rw[List.getElem?_append_left V]at f
      have:=t j u f
      rwa[Nat.add_zero]at this
     ·rw[List.getElem?_append_right (by omega)]at f
      have:=G _ u f
      rw[Nat.add_mul,F]at this
      rwa[show q+(k*r.sz+1*r.sz+(j - r.sz))=q+(k*r.sz+j)from by omega]at this
    ·intro i x m
     cases i with
     |zero=>
      simp at m;subst m
      refine⟨l,o,fun j u f=> ?_⟩
      rw[List.getElem?_append_left (by have:=aZ f;omega)]
      simpa using f
     |succ i=>
      obtain⟨s,p,U⟩:=H i x (by simpa using m)
      refine⟨s,p,fun j u f=> ?_⟩
      rw[List.getElem?_append_right (by rw[F,Nat.add_mul];omega),F]
      rw[show(i+1)*r.sz+j - r.sz=i*r.sz+j from by rw[Nat.add_mul];omega]
      exact U j u f
  obtain⟨cs,B,C,G,H⟩:=J xs 0 (fun i x m=>by
   obtain⟨l,t,o⟩:=h i x m
   exact⟨l,fun j u f=>by rw[Nat.zero_add];exact t j u f,o⟩)
  refine⟨cs,?_,B,C,H⟩
  refine Src.ofSlice w (cI.ok I).und _ _ _ _ C (fun j u f=> ?_) (fun u f=>nW (List.all_eq_true.1 B u f))
  rw[eG]
  have:=G j u f
  rwa[Nat.zero_mul,Nat.zero_add]at this
def cE.Fits (e:cE α) (r:eM α):Prop:=r.sz=e.sz∧(∀{w S es x},r.R w S es x->es=e.enc x)∧(∀{w S x},r.R w S (e.enc x) x)∧∀x,(e.enc x).all one=true
theorem Eo (k:IntKind):(cE.int k).Fits (eM.int k):=⟨rfl,fun h=>h,rfl,fun _=>rfl⟩
theorem MA {cs:List Value} {xs:List α} (s:cs.length=xs.length*e.sz) (h:∀i x,xs[i]? = some x->∀j u,(e.enc x)[j]? = some u->cs[i*e.sz+j]? = some u):cs=cellsOf e xs:=by
 apply List.ext_getElem?
 intro k
 by_cases r:k<xs.length*e.sz
 ·have a:=e.pos
  have q:k / e.sz<xs.length:=Nat.div_lt_of_lt_mul (by rw[Nat.mul_comm];exact r)
  have t:k%e.sz<e.sz:=Nat.mod_lt _ a
  have o:xs[k / e.sz]? = some (xs[k / e.sz]):=List.getElem?_eq_getElem q
  have l:=e.len xs[k / e.sz]
  have m:(e.enc xs[k / e.sz])[k%e.sz]? = some ((e.enc xs[k / e.sz])[k%e.sz]'(by omega)):=List.getElem?_eq_getElem _
  have p:k / e.sz*e.sz+k%e.sz=k:=by rw[Nat.mul_comm];exact Nat.div_add_mod k e.sz
  have b:=h _ _ o _ _ m
  have f:=uI e xs _ _ o _ _ m
  rw[p]at b f
  rw[b,f]
 ·rw[List.getElem?_eq_none (by omega),List.getElem?_eq_none (by rw[dU];omega)]
theorem Mf [cI P] {r:eM α} (b:e.Fits r) {w:World} {S:Nat->Prop} {v:Value} {xs:List α} {T E:TypeId} {B C:Nat} {z:Value} (h:KG r w S v xs) (o:cI.tab P T=some ⟨.slice E,B,C,z⟩):
  Src P e.sz T v xs.length (cellsOf e xs) w∧(cellsOf e xs).all one=true:=by
 obtain⟨a,k,_,m⟩:=b
 obtain⟨cs,t,s,q,hc⟩:=KG.src h o (fun {w S l x} hr=>by rw[k hr];exact m x)
 have:cs=cellsOf e xs:=MA (by rw[q,a]) (fun i x A j u y=>by
  obtain⟨l,f,p⟩:=hc i x A
  rw[<-a]
  exact p j u (by rw[k f];exact y))
 subst this
 rw[<-a]
 exact⟨t,s⟩
theorem BX.sl {r:eM α} (a:e.Fits r) {w:World} {F:Nat->Prop} {v:Value} {xs:List α} (h:BX e w F v xs):KG r w F v xs:=by
 obtain⟨f,_,o,_⟩:=a
 have m:=h
 obtain⟨A,_,q⟩:=h
 rcases q with⟨rfl,rfl⟩|⟨b,k,cap,T,l,rfl,p,y,z,hc,B⟩
 ·exact⟨none,0,rfl,by simp,.inl rfl⟩
 ·refine⟨_,cap,rfl,by omega,.inr ⟨b,k,rfl,p,fun i x t=>⟨e.enc x,fun j u s=> ?_,o⟩⟩⟩
  have:=BX.cell m t s
  simp only[Je,eG]at this
  rw[f]
  exact this

def fT {α:Type} (e:cE α) (vs:List Value) (xss:List (List α)):aX where
 p w F:=vs.length=xss.length∧∃G:Nat->Nat->Prop,(∀i v xs,vs[i]? = some v->xss[i]? = some xs->BX e w (G i) v xs)∧(∀i k,G i k->F k)∧∀i j k,G i k->G j k->i=j
 mono:=by
  rintro w w' S u ⟨r,G,l,f,m⟩ h
  refine⟨r,fun i k=>G i k∧k<w.heap.size,fun i v xs s t=>(Ar e v xs).mono (l i v xs s t) (fun k a b=>⟨⟨a,b⟩,(h k (f i k a) b).2⟩),fun i k a=>(h k (f i k a.1) a.2).1,fun i j k o q=>m i j k o.1 q.1⟩
theorem St.merge {w:World} (t:St c M L w) (i j:Nat) {J K G:aX} (E:i≠j) (H:M[i]? = some J) (I:M[j]? = some K)
  (v:∀{w F1 F2},J.p w F1->K.p w F2->(∀k,F1 k->¬F2 k)->G.p w (fun k=>F1 k∨F2 k)):St c ((M.set i G).eraseIdx j) L w:=by
 obtain⟨X,F,o,U⟩:=t
 have V:=aZ H
 have W:=aZ I
 have T:=v (o.res i _ H) (o.res j _ I) (fun k R S=>E (o.dis _ _ k R S))
 let l:Nat->Nat:=fun q=>if q<j then q else q+1
 refine⟨X,fun q b=>q+1<M.length∧(F (l q) b∨(l q=i∧F j b)),⟨?_,?_,?_⟩,fun f C=> ?_⟩
 ·intro q m v
  have Y:=aZ v
  rw[List.length_eraseIdx_of_lt (by simpa using W),List.length_set]at Y
  have x:q+1<M.length:=by omega
  have u:(M.set i G)[l q]? = some m:=by
   rw[List.getElem?_eraseIdx]at v
   simp only[l]
   split
   ·rename_i B;rwa[if_pos B]at v
   ·rename_i B;rwa[if_neg B]at v
  by_cases A:l q=i
  ·rw[A,List.getElem?_set_self V]at u
   cases u
   refine aX.same T (fun b a=>⟨x,?_⟩) (fun _ _ _=>rfl)
   rcases a with a|a
   ·exact .inl (by rw[A];exact a)
   ·exact .inr ⟨A,a⟩
  ·rw[List.getElem?_set_ne (Ne.symm A)]at u
   exact aX.same (o.res (l q) m u) (fun b a=>⟨x,.inl a⟩) (fun _ _ _=>rfl)
 ·rintro q b ⟨_,a|⟨_,a⟩⟩
  ·exact o.rng _ b a
  ·exact o.rng _ b a
 ·have z:∀q,l q≠j:=by intro q;simp only[l];split<;>omega
  have y:∀q r,l q=l r->q=r:=by intro q r;simp only[l];split<;>split<;>omega
  rintro q r b ⟨_,a|⟨N,a⟩⟩ ⟨_,s|⟨O,s⟩⟩
  ·exact y _ _ (o.dis _ _ b a s)
  ·exact absurd (o.dis _ _ b a s) (z q)
  ·exact absurd (o.dis _ _ b s a) (z r)
  ·exact y _ _ (N.trans O.symm)
 ·exact aX.same (U f C) (fun b a=>⟨a.1,by
   rintro q ⟨_,h|⟨_,h⟩⟩
   ·exact a.2 _ h
   ·exact a.2 _ h⟩) (fun _ _ _=>rfl)
theorem SE (i j:Nat) {u:Value} {k:Int} {vs:List Value} {xss:List (List α)} {ys:List α} {G:Act->World->Prop} (A:Nat.beq i j=false) (R:M[i]? = some (fT e vs xss)) (S:M[j]? = some (Ar e u ys)) (U:0<=k) (V:k<vs.length)
  (h:J c n σ ((M.set i (fT e (vs.set k.toNat u) (xss.set k.toNat ys))).eraseIdx j) L G):J c n σ M L G:=fun a w s t=>
 h a w s (t.merge i j (fun e=>by subst e;simp at A) R S (by
  rintro w T I ⟨p,G,K,z,N⟩ O F
  have B:k.toNat<vs.length:=by omega
  refine⟨by simp[p],fun r b=>(r=k.toNat∧I b)∨(r≠k.toNat∧G r b),?_,?_,?_⟩
  ·intro r H q l m
   by_cases y:r=k.toNat
   ·subst y
    rw[List.getElem?_set_self B]at l
    rw[List.getElem?_set_self (by omega)]at m
    cases l;cases m
    exact aX.same (f:=Ar e u ys) O (fun b o=> .inl ⟨rfl,o⟩) (fun _ _ _=>rfl)
   ·rw[List.getElem?_set_ne (Ne.symm y)]at l m
    exact aX.same (f:=Ar e H q) (K r H q l m) (fun b o=> .inr ⟨y,o⟩) (fun _ _ _=>rfl)
  ·rintro r b (⟨_,o⟩|⟨_,o⟩)
   ·exact .inr o
   ·exact .inl (z r b o)
  ·rintro W X b (⟨C,v⟩|⟨C,v⟩) (⟨E,x⟩|⟨E,x⟩)
   ·rw[C,E]
   ·exact absurd v (F b (z _ b x))
   ·exact absurd x (F b (z _ b v))
   ·exact N _ _ b v x))
theorem Qv {r:eM α} (a:e.Fits r) {v:Value} {vs:List Value} {xss:List (List α)} {w:World} {s t:Nat->Prop} (y:(Ar cE.raw v vs).p w s) (H:(fT e vs xss).p w t):KG (eM.sl r) w (fun k=>s k∨t k) v (vs.zip xss):=by
 obtain⟨f,G,E,F,_⟩:=H
 have B:(vs.zip xss).length=vs.length:=by simp[f]
 have i:=y
 obtain⟨O,_,I⟩:=y
 rcases I with⟨rfl,rfl⟩|⟨b,o,cap,T,C,rfl,l,N,z,hc,R⟩
 ·exact⟨none,0,rfl,by simp,.inl rfl⟩
 ·refine⟨_,cap,by rw[B],by rw[B];omega,.inr ⟨b,o,rfl,.inl l,fun q x h=> ?_⟩⟩
  have A:vs[q]? = some x.1:=by rw[List.getElem?_zip_eq_some]at h;exact h.1
  have m:xss[q]? = some x.2:=by rw[List.getElem?_zip_eq_some]at h;exact h.2
  refine⟨[x.1],fun K u J=> ?_,rfl,?_⟩
  ·have:=BX.cell i A (j:=K) (u:=u) J
   simp only[Je,eG]at this
   exact this
  ·exact(Sl r x.1 x.2).mono (BX.sl a (E q _ _ A m)) (fun k z _=>⟨.inr (F _ k z),rfl⟩)
def YG (p:Prop):aX:=⟨fun _ _=>p,fun h _=>h⟩
theorem YD {p:Prop} {G:Act->World->Prop} (b:YG p∈L) (h:p->J c n σ M L G):J c n σ M L G:=fun a w s t=>h (by obtain⟨_,f⟩:=t.fact b;exact f) a w s t

end
end
section
theorem mixedOrders:Go.Proofs.Tryz.prog.follows .mixedOrders=true:=by kernel_rfl
section
variable {P:Program} {rd:Option Nat} {c:tE} {n:Sz} {σ:Fr} {M L:List aX} {Q:Exit->Act->World->Prop} {ops:Array Oper} {rest:List Oper}
theorem wC {d:Option Tmp} {ty:TypeId} {pos:String} {aft:Array Edge} {g:Option (Nat×Bool)} {T:TypeId} {ps:List (Nat×Operand)} {vs:List (Nat×Value)} {r:Value} (b:ps.map (fun p=>(p.1,ev σ p.2))=vs.map (fun p=>(p.1,some p.2)))
  (f:∀w,(Instr.build T vs.toArray).run P w = .ok r w):Y P c n σ M L ⟨d,.build T ps.toArray,ty,pos,aft,g⟩ r:=fun a w s _=>by
 have e:ps.map (fun p=>(p.1,a.eval p.2))=vs:=by
  clear f
  induction ps generalizing vs with
  |nil=>cases vs<;>simp_all
  | cons p ps ih =>
   cases vs with
   |nil=>simp at b
   |cons q vs=>
    simp only[List.map_cons,List.cons.injEq,Prod.mk.injEq]at b
    simp only[List.map_cons,s.eval b.1.2,b.1.1,ih b.2]
 simp only[execOp,List.map_toArray,e]
 simp[f w]
theorem DU {d:Option Tmp} {ty:TypeId} {pos:String} {aft:Array Edge} {g:Option (Nat×Bool)} {T:TypeId} {r:Value} (a:∀w,(Instr.build T ([]:List (Nat×Value)).toArray).run P w = .ok r w):Y P c n σ M L ⟨d,.build T #[],ty,pos,aft,g⟩ r:=
 wC (ps:=[]) (vs:=[]) (by simp) a
theorem SZ {d:Option Tmp} {ty:TypeId} {pos:String} {aft:Array Edge} {g:Option (Nat×Bool)} {T:TypeId} {a:Nat} {e:Operand} {b:Value} {r:Value} (f:ev σ e=some b) (h:∀w,(Instr.build T ([(a,b)]:List (Nat×Value)).toArray).run P w = .ok r w):Y P c n σ M L ⟨d,.build T #[(a,e)],ty,pos,aft,g⟩ r:=
 wC (ps:=[(a,e)]) (vs:=[(a,b)]) (by simp[f]) h
theorem DV {d:Option Tmp} {ty:TypeId} {pos:String} {aft:Array Edge} {g:Option (Nat×Bool)} {T:TypeId} {a b:Nat} {h i:Operand} {e f:Value} {r:Value} (j:ev σ h=some e) (k:ev σ i=some f) (l:∀w,(Instr.build T ([(a,e),(b,f)]:List (Nat×Value)).toArray).run P w = .ok r w):Y P c n σ M L ⟨d,.build T #[(a,h),(b,i)],ty,pos,aft,g⟩ r:=
 wC (ps:=[(a,h),(b,i)]) (vs:=[(a,e),(b,f)]) (by simp[j,k]) l
theorem KH {d:Option Tmp} {ty:TypeId} {pos:String} {aft:Array Edge} {g:Option (Nat×Bool)} {T:TypeId} {a b e:Nat} {j k l:Operand} {f h i:Value} {r:Value} (m:ev σ j=some f) (o:ev σ k=some h) (p:ev σ l=some i) (q:∀w,(Instr.build T ([(a,f),(b,h),(e,i)]:List (Nat×Value)).toArray).run P w = .ok r w):Y P c n σ M L ⟨d,.build T #[(a,j),(b,k),(e,l)],ty,pos,aft,g⟩ r:=
 wC (ps:=[(a,j),(b,k),(e,l)]) (vs:=[(a,f),(b,h),(e,i)]) (by simp[m,o,p]) q
theorem YI {d:Option Tmp} {ty:TypeId} {pos:String} {aft:Array Edge} {g:Option (Nat×Bool)} {T:TypeId} {a b e f:Nat} {l m o p:Operand} {h i j k:Value} {r:Value} (q:ev σ l=some h) (s:ev σ m=some i) (t:ev σ o=some j) (u:ev σ p=some k) (v:∀w,(Instr.build T ([(a,h),(b,i),(e,j),(f,k)]:List (Nat×Value)).toArray).run P w = .ok r w):Y P c n σ M L ⟨d,.build T #[(a,l),(b,m),(e,o),(f,p)],ty,pos,aft,g⟩ r:=
 wC (ps:=[(a,l),(b,m),(e,o),(f,p)]) (vs:=[(a,h),(b,i),(e,j),(f,k)]) (by simp[q,s,t,u]) v
theorem eB (cs:Array Value):(Value.agg cs).cells=cs:=rfl
end
section
variable {P:Program} {rd:Option Nat} {c:tE} {n:Sz} {σ:Fr} {M L:List aX} {Q:Exit->Act->World->Prop} {l:List Oper} {m:List Nat} {k0:Nat} {H Bs:List (Nat×List aX×List aX)} {rest:List Nat}
theorem Gg {i d e:Nat} {g:Op} {ty:TypeId} {pos:String} {aft:Array Edge} {j:Nat} {b:Bool}
  (r:l[i]? = some ⟨some d,g,ty,pos,aft,some (j,b)⟩:=by exact rfl) (u:(l[j]?).bind (·.dst)=some e:=by exact rfl) (q:lk σ e=some undef:=by exact rfl) (p:Nat.blt d n.sz=true:=by exact rfl)
  (h:JR c n ((d,undef)::σ) M L H Bs (RW P l.toArray Q (before m) (cK l) k0 rest)):JR c n σ M L H Bs (RW P l.toArray Q (before m) (cK l) k0 (i::rest)):=fun a w X Y s t k o=>by
 have f:l.toArray[i]? = some ⟨some d,g,ty,pos,aft,some (j,b)⟩:=by simpa using r
 have v:yielded l.toArray a.tmps j=none:=by
  unfold yielded
  have:(l.toArray[j]?).bind (·.dst)=some e:=by simpa using u
  rw[this,Option.bind_some,s.slot e _ q]
  rfl
 simp only[RW,f]
 rw[if_neg (by simp[Region.wanted,v])]
 exact h _ w X Y (s.put d undef p) t k o
theorem LS {ops:Array Oper} {rest:List Oper} {d e:Nat} {o:Op} {ty:TypeId} {pos:String} {aft:Array Edge} {j:Nat} {b:Bool}
  (i:(ops[j]?).bind (·.dst)=some e:=by exact rfl) (g:lk σ e=some undef:=by exact rfl) (f:Nat.blt d n.sz=true:=by exact rfl) (h:J c n ((d,undef)::σ) M L (wpList P ops Q rest)):
  J c n σ M L (wpList P ops Q (⟨some d,o,ty,pos,aft,some (j,b)⟩::rest)):=fun a w s t=>by
 have k:yielded ops a.tmps j=none:=by
  unfold yielded
  rw[i,Option.bind_some,s.slot e _ g]
  rfl
 unfold wpList
 rw[if_neg (by simp[Region.wanted,k])]
 exact h _ w (s.put d undef f) t
theorem JR.open {r:List Nat} (e:List.range l.length=r) (h:JR c n σ M L H Bs (RW P l.toArray Q (before m) (cK l) k0 r)):JR c n σ M L H Bs (RW P l.toArray Q (before m) (cK l) k0 (List.range l.length)):=by rw[e];exact h
end
end
section
theorem Oo {ops:Array Oper} {x y:Oper} (h:x.apart ops y=true):y.apart ops x=true:=by
 obtain⟨f,g,i⟩:=Oper.apart_spec h
 unfold Oper.apart
 rw[Bool.and_eq_true]
 constructor
 ·cases c:y.dst with
  |none=>rfl
  |some d=>
   have a:=i d c
   have b:x.dst≠some d:=fun e=>g d e (by rw[c])
   simp[a,b]
 ·cases j:x.dst with
  |none=>rfl
  |some d=>simp[f d j]
def Zn (l:List Oper) (m:List Nat) (a:Nat):Bool:=
  (List.range l.length).all fun i=>match l[i]? with
    |none=>false
    | some o =>
      (sE o).all (fun e=>Nat.blt e i&&before m i e) &&
      (List.range l.length).all (fun k=> !before m i k||(Nat.blt k i&&(sE o).any (fun e=>Nat.beq e k||before m e k))) &&
      !AJ o.op &&
      (if Nat.ble a i then(List.range i).all (fun x=>before m i x)
       else(List.range i).all (fun x=>before m i x||(match l[x]? with|none=>false|some b=>b.apart l.toArray o)))
structure VU (l:List Oper) (m:List Nat) (k0:Nat):Prop where
 edge:∀(i:Nat) (o:Oper),l[i]? = some o->∀e∈sE o,e<i∧before m i e=true
 trans:∀(i:Nat) (o:Oper),l[i]? = some o->∀k,before m i k=true->k<l.length->k<i∧∃e∈sE o,e=k∨before m e k=true
 sel:∀(i:Nat) (o:Oper),l[i]? = some o->∀cs b,o.op ≠ .select cs b
 tail:∀i x,i<l.length->k0<=i->x<i->before m i x=true
 ind:∀(i x:Nat) (oi ox:Oper),l[i]? = some oi->l[x]? = some ox->i<k0->x<i->before m i x=false->ox.apart l.toArray oi=true
theorem Ro {l:List Oper} {m:List Nat} {q:Nat} (h:Zn l m q=true):VU l m q:=by
  have a:∀(i:Nat) (o:Oper),l[i]? = some o->
      ((sE o).all (fun e=>Nat.blt e i&&before m i e)=true)∧
      ((List.range l.length).all (fun k=> !before m i k||(Nat.blt k i&&(sE o).any (fun e=>Nat.beq e k||before m e k)))=true)∧AJ o.op=false∧
      ((if Nat.ble q i then(List.range i).all (fun x=>before m i x)
       else(List.range i).all (fun x=>before m i x||(match l[x]? with|none=>false|some r=>r.apart l.toArray o)))=true):=by
    intro i o c
    have:=List.all_eq_true.1 h i (List.mem_range.2 (aZ c))
    simp only[c,Bool.and_eq_true,Bool.not_eq_true']at this
    exact⟨this.1.1.1,this.1.1.2,this.1.2,this.2⟩
  refine⟨?_,?_,?_,?_,?_⟩
  · intro i o c e j
    have:=List.all_eq_true.1 (a i o c).1 e j
    simp only[Bool.and_eq_true,Nat.blt_eq]at this
    exact this
  · intro i o c k g d
    have:=List.all_eq_true.1 (a i o c).2.1 k (List.mem_range.2 d)
    simp only[g,Bool.not_true,Bool.false_or,Bool.and_eq_true,Nat.blt_eq,List.any_eq_true,Bool.or_eq_true]at this
    obtain⟨s,e,j,f⟩:=this
    refine⟨s,e,j,?_⟩
    rcases f with f|f
    · exact .inl (Nat.eq_of_beq_eq_true f)
    · exact .inr f
  · intro i o c cs b e
    have:=(a i o c).2.2.1
    rw[e]at this
    cases this
  · intro i x n g p
    obtain⟨o,c⟩:∃o,l[i]? = some o:=⟨_,List.getElem?_eq_getElem n⟩
    have:=(a i o c).2.2.2
    rw[if_pos (by simpa using g)]at this
    exact List.all_eq_true.1 this x (List.mem_range.2 p)
  · intro i x u r n p g d t
    have:=(a i u n).2.2.2
    rw[if_neg (by simpa using g)]at this
    have:=List.all_eq_true.1 this x (List.mem_range.2 d)
    simp only[t,Bool.false_or,p]at this
    exact this
def VK (l:List Oper):Array Bool->List Nat->Prop
 |listed,[]=>∀i,i<l.length->listed.getD i true=true
 |listed,i::s=>i∈Region.ready .any l.toArray listed∧VK l (listed.setIfInBounds i true) s
def left (l:List Oper) (listed:Array Bool):List Nat:=(List.range l.length).filter fun i=> !listed.getD i true
theorem mem_left {l:List Oper} {listed:Array Bool} {i:Nat}:i∈left l listed↔i<l.length∧listed.getD i true=false:=by
 unfold left
 rw[List.mem_filter,List.mem_range]
 constructor
 ·rintro⟨h1,h2⟩
  exact⟨h1,by simpa using h2⟩
 ·rintro⟨h1,h2⟩
  exact⟨h1,by rw[h2];rfl⟩
theorem Uu {l:List Oper} {listed:Array Bool} (hsz:listed.size=l.length) {i:Nat} (hi:i∈left l listed):(left l (listed.setIfInBounds i true)).length<(left l listed).length:=by
 have hlt:=(mem_left.1 hi).1
 have:left l (listed.setIfInBounds i true)=(left l listed).filter (fun j=> !(j==i)):=by
  unfold left
  rw[List.filter_filter]
  apply List.filter_congr
  intro j hj
  by_cases e:i=j
  ·subst e;simp[hsz,hlt]
  ·rw[getD_set_ne true e]
   have:(j==i)=false:=by simpa using fun h=>e h.symm
   simp[this]
 rw[this]
 apply List.length_filter_lt_length_iff_exists.2
 exact⟨i,hi,by simp⟩
theorem ZM {l:List Oper} {m:List Nat} {k0:Nat} (hc:VU l m k0):∀(fuel t:Nat) (listed:Array Bool),(left l listed).length<=fuel->listed.size=l.length->VK l listed (Region.linearise.go .any l.toArray fuel t listed []):=by
 intro fuel
 induction fuel with
 | zero =>
  intro t listed hlen hsz
  simp only[Region.linearise.go,List.reverse_nil,VK]
  intro i hi
  cases h:listed.getD i true with
  |true=>rfl
  |false=>
   have:=mem_left.2 ⟨hi,h⟩
   have hnil:left l listed=[]:=List.eq_nil_of_length_eq_zero (by omega)
   rw[hnil]at this;simp at this
 | succ fuel ih =>
  intro t listed hlen hsz
  simp only[Region.linearise.go]
  change VK l listed (match (Region.ready .any l.toArray listed)[t%(Region.ready .any l.toArray listed).length]? with
   |some i=>Region.linearise.go .any l.toArray fuel (t / (Region.ready .any l.toArray listed).length) (listed.setIfInBounds i true) [i]
   |none=>[].reverse)
  cases hi:(Region.ready .any l.toArray listed)[t%(Region.ready .any l.toArray listed).length]? with
  | none =>
   have hnil:Region.ready .any l.toArray listed=[]:=by
    cases hr:Region.ready .any l.toArray listed with
    |nil=>rfl
    |cons x xs=>
     rw[hr]at hi
     have hlt:t%(x::xs).length<(x::xs).length:=Nat.mod_lt _ (by simp)
     simp at hi
     simp at hlt
     omega
   simp only[List.reverse_nil,VK]
   intro i
   induction i using Nat.strongRecOn with
   | _ i ihi =>
    intro hlt
    cases h:listed.getD i true with
    |true=>rfl
    | false =>
     exfalso
     obtain⟨o,ho⟩:∃o,l[i]? = some o:=⟨_,List.getElem?_eq_getElem hlt⟩
     have:i∈Region.ready .any l.toArray listed:=by
      refine mem_ready.2 ⟨h,o,by simpa using ho,fun e he hb=> ?_⟩
      have hee:e.on∈sE o:=List.mem_map.2 ⟨e,List.mem_filter.2 ⟨by simpa using he,hb⟩,rfl⟩
      have hei:=(hc.edge i o ho e.on hee).1
      have h1:=ihi e.on hei (by omega)
      have:e.on<listed.size:=by omega
      simp[this]at h1 ⊢
      exact h1
     rw[hnil]at this;simp at this
  |some i=>
   simp only[]
   rw[linearise_go_acc,List.reverse_singleton,List.singleton_append]
   have hir:=List.mem_of_getElem? hi
   refine⟨hir,ih _ _ ?_ (by simp[hsz])⟩
   obtain⟨h0,o,ho,_⟩:=mem_ready.1 hir
   have hil:i∈left l listed:=mem_left.2 ⟨by have:=(Array.getElem?_eq_some_iff.1 ho).1;simpa using this,h0⟩
   have:=Uu hsz hil
   omega
section
variable {P:Program} {Q:Exit->Act->World->Prop} {l:List Oper} {m:List Nat} {k0:Nat}
theorem SQ (hc:VU l m k0):∀(s:List Nat) (L:List Nat) (listed:Array Bool) (a:Act) (w:World) (H:List (Nat×World)) (Bs:List (Nat×(World->Prop))),
  VK l listed s->listed.size=l.length->L.Nodup->L.Pairwise (fun x i=>before m x i=false)->(∀i,i∈L↔i<l.length∧listed.getD i true=false)->
  (∀j k,listed.getD j false=true->before m j k=true->k<l.length->listed.getD k false=true)->L.filter (cK l)=s.filter (cK l)->
  RW P l.toArray Q (before m) (cK l) k0 L a w H Bs->Jc P l.toArray Q s a w:=by
 intro s
 induction s with
 | nil =>
  intro L listed a w H Bs hlin hsz hnd hpw hmem hcl hf h
  have hL:L=[]:=by
   cases L with
   |nil=>rfl
   |cons i L=>
    have:=(hmem i).1 List.mem_cons_self
    rw[hlin i this.1]at this
    cases this.2
  subst hL
  exact h
 | cons i s ih =>
  intro L listed a w H Bs hlin hsz hnd hpw hmem hcl hf h
  obtain⟨hi,hlin'⟩:=hlin
  obtain⟨h0,o,ho',hedge⟩:=mem_ready.1 hi
  have ho:l[i]? = some o:=by simpa using ho'
  have hlt:i<l.length:=aZ ho
  have hiL:i∈L:=(hmem i).2 ⟨hlt,h0⟩
  obtain⟨L1,L2,rfl⟩:=List.append_of_mem hiL
  have hnd':=List.nodup_append.1 hnd
  have hi1:i∉L1:=fun hx=>(hnd'.2.2 i hx i List.mem_cons_self) rfl
  have hi2:i∉L2:=(List.nodup_cons.1 hnd'.2.1).1
  have hpw':=List.pairwise_append.1 hpw
  have hL1:∀x∈L1,before m x i=false:=fun x hx=>hpw'.2.2 x hx i List.mem_cons_self
  have hanc:∀k,before m i k=true->k<l.length->listed.getD k false=true:=by
   intro k hk hkl
   obtain⟨_,e,he,hek⟩:=hc.trans i o ho k hk hkl
   obtain⟨ed,hed,rfl⟩:=List.mem_map.1 he
   obtain⟨hed1,hed2⟩:=List.mem_filter.1 hed
   have hl:=hedge ed (by simpa using hed1) hed2
   rcases hek with rfl|hek
   ·exact hl
   ·exact hcl _ _ hl hek hkl
  have hno:∀x∈L1,before m i x=false:=by
   intro x hx
   cases hb:before m i x with
   |false=>rfl
   |true=>
    have hxl:=((hmem x).1 (by simp[hx]))
    have:=hanc x hb hxl.1
    have hxs:x<listed.size:=by omega
    simp[hxs]at this hxl
    rw[this]at hxl
    simp at hxl
  have hloud:cK l i=true->∀x∈L1,cK l x=false:=by
   intro hli x hx
   rw[List.filter_append,List.filter_cons_of_pos hli,List.filter_cons_of_pos hli]at hf
   cases hlx:cK l x with
   |false=>rfl
   | true =>
    exfalso
    have hm:x∈L1.filter (cK l):=List.mem_filter.2 ⟨hx,hlx⟩
    cases hL:L1.filter (cK l)with
    |nil=>rw[hL]at hm;simp at hm
    |cons y ys=>
     rw[hL,List.cons_append]at hf
     have:y=i:=(List.cons.inj hf).1
     have hy:y∈L1.filter (cK l):=by rw[hL];exact List.mem_cons_self
     rw[this]at hy
     exact hi1 (List.mem_filter.1 hy).1
  have hf':(L1++L2).filter (cK l)=s.filter (cK l):=by
   rw[List.filter_append]at hf ⊢
   cases hli:cK l i with
   |false=>rw[List.filter_cons_of_neg (by rw[hli];simp),List.filter_cons_of_neg (by rw[hli];simp)]at hf;exact hf
   |true=>
    have hn:L1.filter (cK l)=[]:=List.filter_eq_nil_iff.2 (fun x hx=>by rw[hloud hli x hx];simp)
    rw[List.filter_cons_of_pos hli,List.filter_cons_of_pos hli,hn]at hf
    rw[hn]
    exact(List.cons.inj hf).2
  have next:∀a' w' H' Bs',RW P l.toArray Q (before m) (cK l) k0 (L1++L2) a' w' H' Bs'->Jc P l.toArray Q s a' w':=by
   intro a' w' H' Bs' hr
   refine ih (L1++L2) _ a' w' H' Bs' hlin' (by simp[hsz]) ?_ ?_ ?_ ?_ hf' hr
   ·exact List.nodup_append.2 ⟨hnd'.1,(List.nodup_cons.1 hnd'.2.1).2,fun x hx y hy=>hnd'.2.2 x hx y (List.mem_cons_of_mem _ hy)⟩
   ·exact List.pairwise_append.2 ⟨hpw'.1,(List.pairwise_cons.1 hpw'.2.1).2,fun x hx y hy=>hpw'.2.2 x hx y (List.mem_cons_of_mem _ hy)⟩
   ·intro j
    by_cases e:i=j
    ·subst e
     constructor
     ·intro hj
      rcases List.mem_append.1 hj with hj|hj
      ·exact absurd hj hi1
      ·exact absurd hj hi2
     ·rintro⟨_,hj⟩
      simp[hsz,hlt]at hj
    ·rw[getD_set_ne true e]
     have:=hmem j
     simp only[List.mem_append,List.mem_cons]at this ⊢
     constructor
     ·intro hj;exact this.1 (by rcases hj with hj|hj;exact .inl hj;exact .inr (.inr hj))
     ·intro hj
      rcases this.2 hj with hj|rfl|hj
      ·exact .inl hj
      ·exact absurd rfl e
      ·exact .inr hj
   ·intro j k hj hjk hk
    by_cases e:i=j
    ·subst e;exact getD_set_true (hanc k hjk hk)
    ·rw[getD_set_ne false e]at hj
     exact getD_set_true (hcl j k hj hjk hk)
  have hoa:l.toArray[i]? = some o:=ho'
  rw[Pm]
  have hxlen:∀x∈L1,x<l.length:=fun x hx=>((hmem x).1 (by simp[hx])).1
  by_cases hk:k0<=i
  ·have hL1e:L1=[]:=by
    cases L1 with
    |nil=>rfl
    |cons x L1=>
     exfalso
     have h1:=hno x List.mem_cons_self
     have h2:=hL1 x List.mem_cons_self
     have hx:=hxlen x List.mem_cons_self
     rcases Nat.lt_trichotomy x i with h'|h'|h'
     ·rw[hc.tail i x hlt hk h']at h1;cases h1
     ·exact hi1 (by rw[<-h'];exact List.mem_cons_self)
     ·rw[hc.tail x i hx (by omega) h']at h2;cases h2
   subst hL1e
   simp only[List.nil_append,RW,hoa]at h
   unfold wpOp
   simp only[hoa]
   split
   ·rename_i hw
    rw[if_pos hw]at h
    rcases h with⟨_,h|h⟩|⟨h,_⟩|⟨h,_⟩
    ·exact .inl (Oper.wp_mono (fun a' w' hr=>next a' w' _ _ hr) h)
    ·exact .inr (Oper.rnd_mono (fun a' w' hr=>next a' w' _ _ hr) h)
    ·omega
    ·omega
   ·rename_i hw
    rw[if_neg hw]at h
    exact next _ _ _ _ h
  ·have hik:i<k0:=by omega
   have hind:∀x∈L1,Hw l.toArray (before m) (cK l) x i∧x<k0:=by
    intro x hx
    have hxl:=hxlen x hx
    obtain⟨ox,hox⟩:∃ox,l[x]? = some ox:=⟨_,List.getElem?_eq_getElem hxl⟩
    have hxk:x<k0:=by
     rcases Nat.lt_or_ge x k0 with h'|h'
     ·exact h'
     ·have:=hL1 x hx
      rw[hc.tail x i hxl h' (by omega)]at this;cases this
    have hap:ox.apart l.toArray o=true:=by
     rcases Nat.lt_trichotomy x i with h'|h'|h'
     ·exact hc.ind i x o ox ho hox hik h' (hno x hx)
     ·exact absurd (by rw[<-h'];exact hx) hi1
     ·exact Oo (hc.ind x i ox o hox ho hxk h' (hL1 x hx))
    refine⟨⟨hno x hx,hL1 x hx,?_,?_⟩,hxk⟩
    ·intro ox' oi' h1 h2
     have e1:ox=ox':=by simpa [hox]using h1
     have e2:o=oi':=by simpa [ho]using h2
     rw[<-e1,<-e2];exact hap
    ·cases hli:cK l i with
     |false=>exact .inr rfl
     |true=>exact .inl (hloud hli x hx)
   have hsel:∀(i:Nat) (o:Oper),l.toArray[i]? = some o->∀cs b,o.op ≠ .select cs b:=fun i o h=>hc.sel i o (by simpa using h)
   unfold wpOp
   simp only[hoa]
   cases hl:cK l i with
   | false =>
    rcases Dq hsel hoa hik hl L1 a w H Bs hind h with⟨h1,h2⟩|⟨h1,v,B,⟨hb,_,hr⟩,h2⟩
    ·rw[h1];exact next _ _ _ _ h2
    ·rw[h1]
     exact .inl (by simp only[Oper.wp,hr w hb,Oper.upon];exact next _ _ _ _ h2)
   | true =>
    rcases Et hsel hoa hik hl L1 a w H Bs hind h with⟨h1,h2⟩|⟨h1,h2⟩
    ·rw[h1];exact next _ _ _ _ h2
    ·rw[h1]
     exact .inl (IC (mL (fun a' w' hh=>next a' w' _ _ hh.2) h2))

def Ir (x:Nat):List Nat->List (List Nat)
 | []=>[[x]]
 |y::ys=>(x::y::ys)::(Ir x ys).map (y::·)
def AF:List Nat->List (List Nat)
 | []=>[[]]
 |x::xs=>(AF xs).flatMap (Ir x)
theorem Iy (x:Nat) (b:List Nat):∀a:List Nat,a++x::b∈Ir x (a++b)
 | []=>by cases b<;>simp[Ir]
 |y::a=>by
  simp only[List.cons_append,Ir,List.mem_cons,List.mem_map]
  exact .inr ⟨_,Iy x b a,rfl⟩
theorem Dx:∀(l s:List Nat),s.Perm l->s∈AF l
 | [],s,h=>by simp[AF,h.eq_nil]
 | x :: l, s, h => by
  have d:x∈s:=h.symm.subset List.mem_cons_self
  obtain⟨a,b,rfl⟩:=List.append_of_mem d
  have c:(a++b).Perm l:=by
   have:(x::(a++b)).Perm (x::l):=(List.perm_middle.symm).trans h
   exact(List.perm_cons x).1 this
  simp only[AF,List.mem_flatMap]
  exact⟨a++b,Dx l _ c,Iy x b a⟩
def pw (m:List Nat):List Nat->Bool
 | []=>true
 |x::L=>L.all (fun i=> !before m x i && !Nat.beq x i)&&pw m L
theorem Qs (m:List Nat):∀L:List Nat,pw m L=true->L.Nodup∧L.Pairwise (fun x i=>before m x i=false)
 | [],_=>⟨List.nodup_nil,List.Pairwise.nil⟩
 |x::L,h=>by
  simp only[pw,Bool.and_eq_true]at h
  obtain⟨b,c⟩:=Qs m L h.2
  have a:=List.all_eq_true.1 h.1
  refine⟨List.nodup_cons.2 ⟨fun e=> ?_,b⟩,List.pairwise_cons.2 ⟨fun i d=> ?_,c⟩⟩
  ·have:=a x e;simp at this
  ·have:=a i d;simp only[Bool.and_eq_true,Bool.not_eq_true']at this;exact this.1
def TJ (l:List Oper) (m:List Nat) (LL:List (List Nat)):Bool:=
 (LL.all fun L=>pw m L&&L.all (fun i=>Nat.blt i l.length)&&(List.range l.length).all (fun i=>L.contains i)) &&
 ((AF ((List.range l.length).filter (cK l))).all fun s=> !pw m s||LL.any fun L=>L.filter (cK l)==s)
theorem Jx {hc:VU l m k0}:∀(s:List Nat) (a:Array Bool),a.size=l.length->VK l a s->
  (∀j k,a.getD j false=true->before m j k=true->k<l.length->a.getD k false=true)->
  s.Nodup∧(∀i,i∈s↔i<l.length∧a.getD i true=false)∧s.Pairwise (fun x i=>before m x i=false)
 | [],a,_,h,_=>⟨List.nodup_nil,fun i=>⟨fun B=>by simp at B,fun⟨z,g⟩=>by rw[h i z]at g;cases g⟩,List.Pairwise.nil⟩
 | i :: s, a, hsz, h, hcl => by
  obtain⟨M,y⟩:=h
  obtain⟨I,o,C,d⟩:=mem_ready.1 M
  have F:l[i]? = some o:=by simpa using C
  have t:=aZ F
  have c:∀k,before m i k=true->k<l.length->a.getD k false=true:=by
   intro k w r
   obtain⟨_,e,L,f⟩:=hc.trans i o F k w r
   obtain⟨H,A,rfl⟩:=List.mem_map.1 L
   obtain⟨n,p⟩:=List.mem_filter.1 A
   have y:=d H (by simpa using n) p
   rcases f with rfl|f
   ·exact y
   ·exact hcl _ _ y f r
  obtain⟨z,g,J⟩:=Jx (hc:=hc) s (a.setIfInBounds i true) (by simp[hsz]) y (fun j k E q w=>by
   by_cases e:i=j
   ·subst e;exact getD_set_true (c k q w)
   ·rw[getD_set_ne false e]at E
    exact getD_set_true (hcl j k E q w))
  have v:i∉s:=fun B=>by
   have:=((g i).1 B).2
   simp[hsz,t]at this
  refine⟨List.nodup_cons.2 ⟨v,z⟩,fun j=> ?_,List.pairwise_cons.2 ⟨fun x G=> ?_,J⟩⟩
  ·by_cases e:i=j
   ·subst e;simp[t,I]
   ·rw[List.mem_cons,g j,getD_set_ne true e]
    constructor
    ·rintro(h|h)
     ·exact absurd h.symm e
     ·exact h
    ·exact fun h=> .inr h
  ·cases K:before m i x with
   |false=>rfl
   |true=>
    have b:=(g x).1 G
    have D:i≠x:=fun e=>v (e▸G)
    rw[getD_set_ne true D]at b
    have:=c x K b.1
    have u:x<a.size:=by omega
    simp[u]at this b
    rw[this]at b
    simp at b
theorem Ge {rd:Option Nat} {id:Nat} {a:Act} {w:World} (LL:List (List Nat)) (hd:l.all iS=true) (hm:P.follows .mixedOrders=true) (hc:Zn l m k0=true) (hv:TJ l m LL=true)
  (h:∀L∈LL,RW P l.toArray Q (before m) (cK l) k0 L a w.drew [] []):(Code.region id l.toArray true).wpr rd P Q a w:=by
 refine GW hd fun t=> ?_
 have hcc:=Ro hc
 simp only[Region.schedule,hm,Bool.true_or,if_true,Region.linearise]
 have h0:∀i,i<l.length->(Array.replicate l.toArray.size false).getD i true=false:=fun i hi=>by simp[hi]
 have hcl:∀j k,(Array.replicate l.toArray.size false).getD j false=true->before m j k=true->k<l.length->(Array.replicate l.toArray.size false).getD k false=true:=by
  intro j k hj
  simp[Array.getElem?_replicate]at hj
  split at hj<;>simp at hj
 have hlin:=ZM hcc l.toArray.size t (Array.replicate l.toArray.size false) (by unfold left;exact Nat.le_trans (List.length_filter_le _ _) (by simp)) (by simp)
 generalize Region.linearise.go .any l.toArray l.toArray.size t (Array.replicate l.toArray.size false) []=s at hlin
 obtain⟨hn,hmem,hp⟩:=Jx (hc:=hcc) s _ (by simp) hlin hcl
 simp only[TJ,Bool.and_eq_true]at hv
 have hperm:s.Perm (List.range l.length):=by
  refine(List.perm_ext_iff_of_nodup hn List.nodup_range).2 fun i=> ?_
  rw[hmem i,List.mem_range]
  exact⟨fun h=>h.1,fun h=>⟨h,h0 i h⟩⟩
 have hso:=Dx _ _ (hperm.filter (cK l))
 have h2:=List.all_eq_true.1 hv.2 _ hso
 have hpws:pw m (s.filter (cK l))=true:=by
  have hn':(s.filter (cK l)).Nodup:=List.Pairwise.filter _ hn
  have hp':(s.filter (cK l)).Pairwise (fun x i=>before m x i=false):=List.Pairwise.filter _ hp
  generalize s.filter (cK l)=q at hn' hp'
  induction q with
  |nil=>rfl
  |cons x q ihq=>
   have a1:=List.nodup_cons.1 hn'
   have a2:=List.pairwise_cons.1 hp'
   simp only[pw,Bool.and_eq_true,List.all_eq_true,Bool.not_eq_true']
   refine⟨fun i hi=>⟨a2.1 i hi,lY (fun e=>a1.1 (e▸hi))⟩,ihq a1.2 a2.2⟩
 rw[hpws]at h2
 simp only[Bool.not_true,Bool.false_or,List.any_eq_true]at h2
 obtain⟨L,hL,he⟩:=h2
 have hLv:=List.all_eq_true.1 hv.1 L hL
 simp only[Bool.and_eq_true,List.all_eq_true,Nat.blt_eq,List.mem_range,List.contains_iff_mem]at hLv
 obtain⟨hLn,hLp⟩:=Qs m L hLv.1.1
 exact SQ hcc s L _ a _ [] [] hlin (by simp) hLn hLp (fun i=>⟨fun hi=>⟨hLv.1.2 i hi,h0 i (hLv.1.2 i hi)⟩,fun hi=>hLv.2 i hi.1⟩) hcl (by simpa using he) (h L hL)
theorem Jw {i:Option Nat} {c:tE} {n:Sz} {σ:Fr} {M L:List aX} {id:Nat} (m:List Nat) (k0:Nat) (b:List (List Nat)) (e:P.follows .mixedOrders=true) (hc:Zn l m k0=true) (g:TJ l m b=true)
  (h:∀o∈b,JR c n σ M L [] [] (RW P l.toArray Q (before m) (cK l) k0 o)) (d:l.all iS=true:=by rfl):J c n σ M L ((Code.region id l.toArray true).wpr i P Q):=fun a w s t=>
 Ge b d e hc g fun o f=>h o f a w.drew [] [] s (t.ext ((Below.refl _ _).drew)) trivial trivial
end
end
end Go.Sx
end
section
set_option maxRecDepth 100000
namespace Go.Sx
open Go.RowKit Go.ChangeShapes Go.WideShapes Go.ChangeAt Go.Proofs Go.Joins
theorem aeB:ownKnob Tryz.prog.godebug=none:=by kernel_rfl
theorem abq:laidOutB Tryz.prog=true:=by kernel_rfl
section
variable {H:Type} {enc:TypeId×Value->H} {P:Program}
theorem DG (i:laidOutB P=true) {W f:World} (g:Kw W f):∀(a:List TypeId) (vs:List Value) (c:List (DataW H)) (p:List MemPlace),(a.all fun t=>P.readableRec t&&decide (t<P.types.size))=true->
  DataW.TrodAll enc P W 0 (fun _=>true) true a vs c p->(∀x∈p,x.block<W.heap.size)->DataW.TrodAll enc P f 0 (fun b=>decide (b<W.heap.size)) true a vs c p
 | [],[],[],_,_,h,_=>h
 |t::a,v::vs,d::c,ps,hr,h,hlt=>by
  obtain⟨p,q,j,k,rfl⟩:=h
  simp only[List.all_cons,Bool.and_eq_true,decide_eq_true_eq]at hr
  exact⟨p,q,Below.trod i hr.1.1 hr.1.2 j g (fun x e=>hlt x (List.mem_append_left _ e)),DG i g a vs c q (by simpa using hr.2) k (fun x e=>hlt x (List.mem_append_right _ e)),rfl⟩
 | [],[],_::_,_,_,h,_=>h.elim
 | [],_::_,_,_,_,h,_=>h.elim
 |_::_,[],_,_,_,h,_=>h.elim
 |_::_,_::_,[],_,_,h,_=>h.elim
theorem HY {f:FuncId} {args:Array Value} {L:List aX} {W:World} (h:aU Tryz.prog f args L (fun _:Unit=> .bool true) (fun _ l=>l) (fun _ l=>l)) (b:∀g∈L,g.p W (fun _=>True)):
  Calls Tryz.prog f args W fun e a=>e = .returned (.bool true)∧Kw W a:=
 (h W (fun _=>True) b).mono fun _ _ ⟨_,c,d⟩=>⟨c,d.old.ext⟩

variable {w:World} {base:Nat} {spare:Nat->Bool} {held:Bool}
theorem Rm {A:Addr} {k:Nat} {cs:List Value} (h:w.cells? base A k=some cs):cs.length=k∧∀(j:Nat) (u:Value),cs[j]? = some u->w.cell? (A.add j)=some u:=by
 obtain⟨_,b,c⟩:=World.cells?_some h
 refine⟨b,fun j u a=>?_⟩
 have d:=aZ a
 rw[c j (by omega)];exact a
theorem zG {s:Type} (r:eM s) {t e:TypeId} (T:P.underlying t=some (.slice e)) (hc:P.cellsOf e=r.sz)
  (B:∀(n:Nat) (cs:List Value) (x:DataW H×List MemPlace),DataW.trod enc P w base spare held n e cs=some x->∃y:s,r.R w (fun _=>True) cs y)
  {U:Nat} {v:Value} {x:DataW H×List MemPlace} (h:DataW.trod enc P w base spare held U t [v]=some x):∃xs:List s,KG r w (fun _=>True) v xs:=by
 rcases Deep.open_slice T h with⟨I,_⟩|⟨a,len,cap,m,n,D,Y,I,Z,hl,hm,E,_,W⟩
 ·cases I
  exact⟨[],none,0,rfl,by simp,.inl rfl⟩
 cases I
 have S:len<=m:=by rw[E];split<;>omega
 by_cases Q:len=0
 ·subst Q
  exact⟨[],some a,cap,rfl,by simp,.inl rfl⟩
 -- the elements,chosen one by one
 have J:∀k,k<=len->∃xs:List s,xs.length=k∧∀i y,xs[i]? = some y->∃d,(∀(j:Nat) (u:Value),d[j]? = some u->w.cell? ((a.add (i*P.cellsOf e)).add j)=some u)∧r.R w (fun _=>True) d y:=by
  intro k
  induction k with
  |zero=>exact fun _=>⟨[],rfl,fun i y l=>by simp at l⟩
  | succ k ih =>
   intro hk
   obtain⟨xs,p,q⟩:=ih (by omega)
   obtain⟨g,z,G⟩:=W k (by omega)
   obtain⟨y,l⟩:=B n g _ G
   refine⟨xs++[y],by simp[p],fun i X f=>?_⟩
   by_cases M:i<xs.length
   ·rw[List.getElem?_append_left M]at f;exact q i X f
   have C:i=k:=by
    have:=aZ f
    simp at this;omega
   subst C
   rw[List.getElem?_append_right (by omega),p,Nat.sub_self]at f
   simp at f;subst f
   exact⟨g,(Rm z).2,l⟩
 obtain⟨xs,p,q⟩:=J len (Nat.le_refl _)
 have c:a.spot=none:=by
  obtain⟨d,A,F⟩:=q 0 (xs[0]'(by omega)) (List.getElem?_eq_getElem _)
  have K:=r.len F
  have L:=r.pos
  have:=A 0 (d[0]'(by omega)) (List.getElem?_eq_getElem _)
  rw[Nat.zero_mul]at this
  have N:(a.add 0).add 0=a:=rfl
  rw[N]at this
  unfold World.cell? at this
  split at this
  ·split at this
   ·cases this
   rename_i O;simpa using O
  cases this
 obtain⟨b,o,sp⟩:=a
 simp only at c
 subst c
 refine⟨xs,some ⟨b,o,none⟩,cap,by rw[p],?_,.inr ⟨b,o,rfl,trivial,fun i y l=>?_⟩⟩
 ·have:maxLen=9223372036854775807:=rfl
  exact⟨by omega,by omega⟩
 obtain⟨d,A,F⟩:=q i y l
 refine⟨d,fun j u V=>?_,F⟩
 have:=A j u V
 rw[eG,eG,hc]at this
 rwa[Nat.add_assoc]at this
theorem Ic {k:IntKind} {e:TypeId} (a:P.underlying e=some (.int k)) (n:Nat) (cs:List Value) (x:DataW H×List MemPlace) (h:DataW.trod enc P w base spare held n e cs=some x):∃y:Int,(eM.int k).R w (fun _=>True) cs y:=by
 obtain⟨y,b,_,_⟩:=DataW.trod_int a h
 exact⟨y,b⟩
theorem Rn:Tryz.prog.cellsOf 3=1:=by kernel_rfl
theorem EP {a:Nat} {v:Value} {d:DataW H} {p:List MemPlace} (c:Value.okWide Tryz.prog w .any a 22 v) (h:DataW.Trod enc Tryz.prog w base spare held 22 v d p):∃xs:List Int,(Sl (eM.int .i64) v xs).p w (fun _=>True):=by
 obtain⟨e,len,cap,rfl⟩:=okWide_slice Tryz.underlying22 c
 obtain⟨U,b⟩:=h
 exact zG (eM.int .i64) Tryz.underlying22 Rn (Ic Tryz.underlying3) (by simpa [Value.cells]using b)
end
end Go.Sx
end
section
namespace Go.Sx
open Go.RowKit
section

def ck {a:Type} (p:Prop) [Decidable p] (x:Option a):Option a:=if p then x else none
theorem PR {b:Type} {p:Prop} [Decidable p] {x:Option b} {r:b} (h:ck p x=some r):p∧x=some r:=by
 unfold ck at h
 by_cases a:p
 ·rw[if_pos a]at h;exact⟨a,h⟩
 ·rw[if_neg a]at h;cases h
theorem JU {a:Type} {p:Prop} [Decidable p] {x y:Option a} {r:a} (b:p) (h:(if p then x else y)=some r):x=some r:=by rwa[if_pos b]at h
theorem Xu {a:Type} {p:Prop} [Decidable p] {x y:Option a} {r:a} (b:¬p) (h:(if p then x else y)=some r):y=some r:=by rwa[if_neg b]at h
theorem Io {a:Type} {b:Bool} {x y:Option a} {r:a} (c:b=false) (h:(if b=true then x else y)=some r):y=some r:=by
 rwa[if_neg (by simp[c])]at h
theorem bnd {a b:Type} {x:Option a} {f:a->Option b} {r:b} (h:x.bind f=some r):∃y,x=some y∧f y=some r:=Option.bind_eq_some_iff.1 h
def bJ {X R:Type} (step:X->(X->Option R)->Option R):Nat->X->Option R
 |0,_=>none
 |k+1,x=>step x (bJ step k)

def aB (M L:List aX) (g:aX):Prop:=∀(w:World) (S:Nat->Prop) (T:Nat->Nat->Prop) (U:Nat->Prop),(∀f∈L,f.p w S)->(∀(i:Nat) (m:aX),M[i]? = some m->m.p w (T i))->(∀k,S k->U k)->(∀i k,T i k->U k)->g.p w U
section
variable {M L:List aX} {α β:Type} {e:cE α} {r:eM α} {v:Value}
theorem aX.wide {f:aX} {w:World} {S U:Nat->Prop} (h:f.p w S) (a:∀k,S k->U k):f.p w U:=f.mono h fun k b _=>⟨a k b,rfl⟩
theorem aB.fact {g:aX} (j:Nat) (h:L[j]? = some g):aB M L g:=fun _ _ _ _ a _ b _=>aX.wide (a g (List.mem_of_getElem? h)) b
theorem aB.res {m:aX} (i:Nat) (h:M[i]? = some m):aB M L m:=fun _ _ _ _ _ a _ b=>aX.wide (a i m h) (b i)
theorem aB.mono {f g:aX} (h:aB M L f) (a:∀{w U},f.p w U->g.p w U):aB M L g:=fun w S T U b c d i=>a (h w S T U b c d i)
theorem aO {xs:List α} (h:aB M L (Ar e v xs)) (a:e.Fits r):aB M L (Sl r v xs):=h.mono fun h=>BX.sl a h
theorem aB.nil:aB M L (Sl r (.slice none 0 0) []):=fun _ _ _ _ _ _ _ _=>⟨none,0,rfl,by simp,.inl rfl⟩
def Sn {β:Type} (r:eM α) (b:α->β) (v:Value) (a:List α) (xs:List β):aX where
 p w S:=KG r w S v a∧a.map b=xs
 mono:=fun h e=>⟨h.1.mono e,h.2⟩
abbrev S2 (r:eM α) (v:Value) (a:List (Value×List α)) (xss:List (List α)):aX:=Sn (eM.sl r) (fun z=>z.2) v a xss
theorem aB.sl {b:α->β} {a:List α} {xs:List β} (h:aB M L (Sn r b v a xs)):aB M L (Sl r v a):=h.mono fun h=>h.1
theorem Wn [Inhabited α] [Inhabited β] (f:α->β) {a:List α} {i:Int} (c:0<=i) (d:i<a.length):at' (a.map f) i=f (at' a i):=by
 have h:=iI c d
 have b:=iI (xs:=a.map f) c (by simpa using d)
 rw[List.getElem?_map,h]at b
 simpa using b.symm
theorem aB.el {a:List (Value×List α)} {xss:List (List α)} {i:Int} (h:aB M L (S2 r v a xss)) (b:0<=i) (c:i<xss.length):aB M L (Sl r (at' a i).1 (at' xss i)):=h.mono fun {w U} h=>by
 obtain⟨h,d⟩:=h
 have f:i<a.length:=by rw[<-d]at c;simpa using c
 obtain⟨j,g,_⟩:=sl_cell h (iI b f)
 rw[<-d,Wn _ b f]
 exact g.2
theorem aV {i j:Nat} {vs:List Value} {xss:List (List α)} (g:M[i]? = some (Ar cE.raw v vs)) (l:M[j]? = some (fT e vs xss)) (a:e.Fits r):aB M L (S2 r v (vs.zip xss) xss):=fun w S T U n b o d=>by
 have f:=b i _ g
 have c:=b j _ l
 refine⟨(Qv a f c).mono fun k m _=>⟨?_,rfl⟩,?_⟩
 ·rcases m with h|h
  ·exact d i k h
  ·exact d j k h
 ·rw[List.map_snd_zip]
  obtain⟨p,_⟩:=c;omega
theorem aB.row {j:Nat} {vs:List Value} {xss:List (List α)} {k:Int} (l:M[j]? = some (fT e vs xss)) (a:e.Fits r) (b:0<=k) (g:k<xss.length):aB M L (Sl r (at' vs k) (at' xss k)):=fun w S T U n h o i=>by
 have c:=h j _ l
 have p:=c.1
 obtain⟨_,G,d,f,_⟩:=c
 exact(BX.sl a (d k.toNat _ _ (iI b (by omega)) (iI b g))).mono fun q m _=>⟨i j q (f _ q m),rfl⟩
theorem aB.st {c:tE} {w:World} {g:aX} (h:aB M L g) (t:St c M L w):∃S,g.p w S:=by
 obtain⟨_,F,a,b⟩:=t
 exact⟨fun _=>True,h w (De c F) F (fun _=>True) b a.res (fun _ _=>trivial) (fun _ _ _=>trivial)⟩
end

section
variable {P:Program} {rd:Option Nat} {c:tE} {n:Sz} {σ:Fr} {M L:List aX} {Q:Exit->Act->World->Prop} {ops:Array Oper} {rest:List Oper}
variable {d:Option Tmp} {D:Nat} {ty:TypeId} {pos:String} {aft:Array Edge} {g:Option (Nat×Bool)}
variable {α β:Type} {e:cE α} {r:eM α}
theorem fR [cI P] {T E:TypeId} {j k:Nat} {z:Value} {x:Operand} {v:Value} {xs:List α} (i:ev σ x=some v) (f:aB M L (Sl r v xs))
  (b:cI.tab P T=some ⟨.slice E,j,k,z⟩):Y P c n σ M L ⟨d,.call ⟨.builtin .len,#[x],#[T]⟩,ty,pos,aft,g⟩ (.int .i64 xs.length):=fun a w s t=>by
 obtain⟨S,l,cap,h,_,_⟩:=f.st t
 subst h
 simp[execOp,resolve,invoke,builtin,s.eval i,E_ w (cI.ok b) rfl]
theorem iW [cI P] {T E:TypeId} {k l:Nat} {z:Value} {x:Operand} {v:Value} {f:α->β} {m:List α} {xs:List β} (j:ev σ x=some v) (b:aB M L (Sn r f v m xs))
  (i:cI.tab P T=some ⟨.slice E,k,l,z⟩):Y P c n σ M L ⟨d,.call ⟨.builtin .len,#[x],#[T]⟩,ty,pos,aft,g⟩ (.int .i64 xs.length):=fun a w s t=>by
 obtain⟨_,_,h⟩:=b.st t
 rw[<-h,List.length_map]
 exact fR j b.sl i a w s t
theorem a_ [cI P] {T E:TypeId} {C F k G:Nat} {z H:Value} {l:TypeDesc} {x y:Operand} {v:Value} {i:Int} {xs:List α} (A:ev σ x=some v) (B:ev σ y=some (.int .i64 i)) (q:aB M L (Sl r v xs))
  (p:cI.tab P T=some ⟨.slice E,C,F,z⟩) (o:cI.tab P E=some ⟨l,k,G,H⟩) (h:0<=i∧i<xs.length):
  Y P c n σ M L ⟨d,.indexAddr T x y,ty,pos,aft,g⟩ (CS v (i.toNat*k)):=fun a w s t=>by
 obtain⟨m,j⟩:=h
 obtain⟨S,I,cap,u,_,h⟩:=q.st t
 rcases h with h|⟨b,f,rfl,_,_⟩
 ·subst h;simp at j;omega
 ·subst u
  simp[execOp,s.eval A,s.eval B,FY w (cI.ok p) rfl (cI.ok o) b f _ cap i m j]
theorem Sn.len {w:World} {S:Nat->Prop} {v:Value} {b:α->β} {a:List α} {xs:List β} (h:(Sn r b v a xs).p w S):a.length=xs.length:=by rw[<-h.2];simp
theorem cY [cI P] {T E:TypeId} {u A f B:Nat} {z C:Value} {j:TypeDesc} {x y:Operand} {v:Value} {i:Int} {k:α->β} {F:List α} {xs:List β} (p:ev σ x=some v) (q:ev σ y=some (.int .i64 i)) (b:aB M L (Sn r k v F xs))
  (o:cI.tab P T=some ⟨.slice E,u,A,z⟩) (m:cI.tab P E=some ⟨j,f,B,C⟩) (h:0<=i∧i<xs.length):
  Y P c n σ M L ⟨d,.indexAddr T x y,ty,pos,aft,g⟩ (CS v (i.toNat*f)):=fun a w s t=>by
 obtain⟨_,l⟩:=b.st t
 exact a_ p q b.sl o m (by rw[Sn.len l];exact h) a w s t
theorem qN [cI P] [Inhabited α] {T:TypeId} {C E q o:Nat} {z:Value} {j:TypeDesc} {x:Operand} {v:Value} {i:Int} {xs:List α} {f:α->Value} (B:ev σ x=some (CS v (i.toNat*q+o))) (u:aB M L (Sl r v xs))
  (m:cI.tab P T=some ⟨j,C,E,z⟩) (p:wD j=false) (A:r.sz=q) (hc:r.Cell o f) (h:0<=i∧i<xs.length):
  Y P c n σ M L ⟨d,.load T x,ty,pos,aft,g⟩ (f (at' xs i)):=fun a w s t=>by
 obtain⟨k,l⟩:=h
 obtain⟨S,h⟩:=u.st t
 obtain⟨F,y,b⟩:=sl_cell h (iI k l)
 have:=b o _ (hc y)
 rw[A]at this
 simp[execOp,s.eval B,CS,wP (cI.ok m) p this]
theorem bV [cI P] [Inhabited α] {T:TypeId} {p s q:Nat} {z:Value} {a:TypeDesc} {x:Operand} {v:Value} {i:Int} {xs:List α} {f:α->Value} (m:ev σ x=some (CS v (i.toNat*q))) (k:aB M L (Sl r v xs))
  (b:cI.tab P T=some ⟨a,p,s,z⟩) (j:wD a=false) (l:r.sz=q) (hc:r.Cell 0 f) (h:0<=i∧i<xs.length):
  Y P c n σ M L ⟨d,.load T x,ty,pos,aft,g⟩ (f (at' xs i)):=qN (o:=0) m k b j l hc h
theorem cW [cI P] {T:TypeId} {q u:Nat} {z:Value} {b:TypeDesc} {x:Operand} {v:Value} {i:Int} {k:List (Value×List α)} {xss:List (List α)} (p:ev σ x=some (CS v (i.toNat*1))) (j:aB M L (S2 r v k xss))
  (m:cI.tab P T=some ⟨b,q,u,z⟩) (o:wD b=false) (h:0<=i∧i<xss.length):
  Y P c n σ M L ⟨d,.load T x,ty,pos,aft,g⟩ (at' k i).1:=fun a w s t=>by
 obtain⟨_,l⟩:=j.st t
 exact bV (r:=eM.sl r) (f:=fun z=>z.1) p j.sl m o rfl (eM.sl_cell r) (by rw[Sn.len l];exact h) a w s t
theorem kQ [cI P] (j:Nat) {T:TypeId} {o:Nat} {z:Value} {a:TypeDesc} {x:Operand} {v:Value} {i:Int} {vs:List Value} {m:Nat} (l:ev σ x=some (CS v (i.toNat*1))) (k:M[j]? = some (Ar cE.raw v vs)) (p:vs.length=m)
  (b:cI.tab P T=some ⟨a,1,o,z⟩) (f:wD a=false) (h:0<=i∧i<m):
  Y P c n σ M L ⟨d,.load T x,ty,pos,aft,g⟩ (at' vs i):=S_ j l k b f rfl rfl h.1 (by omega)
theorem iA [cI P] [Inhabited α] {T:TypeId} {J q:Nat} {z:Value} {m:TypeDesc} {x:Operand} {v:Value} {i:Int} {xs:List α} {cs:List Value} (I:ev σ x=some (CS v (i.toNat*q))) (E:aB M L (Sl r v xs)) (f:e.Fits r) (k:e.enc (at' xs i)=cs)
  (y:cI.tab P T=some ⟨m,cs.length,J,z⟩) (B:wD m=true) (F:e.sz=q) (h:0<=i∧i<xs.length):Y P c n σ M L ⟨d,.load T x,ty,pos,aft,g⟩ (.agg cs.toArray):=fun a w s t=>by
 obtain⟨o,p⟩:=h
 obtain⟨S,h⟩:=E.st t
 obtain⟨K,G,b⟩:=sl_cell h (iI o p)
 obtain⟨l,C,_,_⟩:=f
 have:=C G
 subst this k
 rw[l,F]at b
 have:=Ah (w:=w) (A:=Je v (i.toNat*q)) (cs:=e.enc (at' xs i)) (cI.ok y) B rfl (fun j u H=>by rw[He];exact b j u H)
 simp[execOp,s.eval I,CS,this]

def aD (M L:List aX) (a:List aX):Prop:=∀f∈a,aB M L f
theorem aD.nil:aD M L []:=fun _ h=>by simp at h
theorem aD.cons {f:aX} {b:List aX} (h:aB M L f) (k:aD M L b):aD M L (f::b):=fun x a=>by
 rcases List.mem_cons.1 a with rfl|a
 ·exact h
 ·exact k x a
theorem Mg {w w':World} {b:List aX} {F:Nat->Nat->Prop} {U:Nat->Prop} (l:AC c.O c.w0 w) (i:Yd c w M F) (j:∀f∈L,f.p w (De c F))
  (t:St ⟨w,U,fun _=>False⟩ b [] w'):St c (b++M) L w':=by
 obtain⟨h,F',a,_⟩:=t
 have t2:St ⟨w,De c F,fun _=>False⟩ b [] w':=⟨h,F',⟨a.res,a.rng,a.dis⟩,fun f k=>by simp at k⟩
 exact St.call l i j t2
theorem Ob {A:Type} {j:A->Value} {k:A->List aX->List aX} {f:FuncId} {xs:List Operand} {vs:List Value} {b:Array TypeId} {o:List aX} (u:aP P f)
  (z:aU P f vs.toArray o j k (fun _ l=>l)) (C:xs.map (ev σ)=vs.map some) (q:aD M L o) (m:∀x l,k x l=k x []++l):
  aI P c n σ M L ⟨d,.call ⟨.value (.func f),xs.toArray,b⟩,ty,pos,aft,g⟩ j (fun x=>k x M) (fun _=>L):=fun a w s t=>by
 have i:(execOp a.eval ⟨d,.call ⟨.value (.func f),xs.toArray,b⟩,ty,pos,aft,g⟩).run P w = .ok (.enter f vs.toArray) w:=by
  have e:=ZA s C
  simp[execOp,resolve,Act.eval,Deferred.ofValue,invoke,u _ w,e]
 simp only[Oper.wp,i,Oper.upon]
 obtain⟨y,F,p,h⟩:=t
 refine(z w (fun _=>True) (fun f v=>q f v w (De c F) F _ h p.res (fun _ _=>trivial) (fun _ _ _=>trivial))).mono ?_
 rintro e w' ⟨x,rfl,B⟩
 refine⟨x,rfl,?_⟩
 rw[m]
 exact Mg y p h B
theorem qU {A:Type} {j:A->Value} {k:A->List aX->List aX} {f:FuncId} {t:Tmp} {xs:List Operand} {vs cs:List Value} {b:Array TypeId} {p:List aX} (y:aP P f)
  (o:lk σ t=some (.func (.func f) #[] cs.toArray)) (C:aU P f (vs++cs).toArray p j k (fun _ l=>l)) (E:xs.map (ev σ)=vs.map some) (v:aD M L p) (m:∀x l,k x l=k x []++l):
  aI P c n σ M L ⟨d,.call ⟨.value (.tmp t),xs.toArray,b⟩,ty,pos,aft,g⟩ j (fun x=>k x M) (fun _=>L):=fun a w s G=>by
 have i:(execOp a.eval ⟨d,.call ⟨.value (.tmp t),xs.toArray,b⟩,ty,pos,aft,g⟩).run P w = .ok (.enter f (vs++cs).toArray) w:=by
  have e:=ZA s E
  have u:a.eval (.tmp t) = .func (.func f) #[] cs.toArray:=s.eval (x:= .tmp t) o
  simp[execOp,resolve,u,Deferred.ofValue,invoke,y _ w,e]
 simp only[Oper.wp,i,Oper.upon]
 obtain⟨B,F,q,h⟩:=G
 refine(C w (fun _=>True) (fun f z=>v f z w (De c F) F _ h q.res (fun _ _=>trivial) (fun _ _ _=>trivial))).mono ?_
 rintro e w' ⟨x,rfl,o⟩
 refine⟨x,rfl,?_⟩
 rw[m]
 exact Mg B q h o

theorem dW [cI P] (i:Nat) {r:eM α} (b:e.Fits r) {x y:Operand} {v u:Value} {xs ys:List α} {T E:TypeId} {U V k h:Nat} {z m:Value} {o:TypeDesc} (O:ev σ x=some v) (R:ev σ y=some u) (H:M[i]? = some (Ar e v xs)) (I:aB M L (Sl r u ys))
  (l:cI.tab P T=some ⟨.slice E,U,V,z⟩) (B:cI.tab P E=some ⟨o,k,h,m⟩) (q:e.sz=k) (A:Nat.ble h 1024=true) (W:(xs.length:Int)+ys.length<=1099511627) (S:m.cells.size=k):
  aI P c n σ M L ⟨d,.call ⟨.builtin .append,#[x,y],#[T,T]⟩,ty,pos,aft,g⟩ (fun f:Value=>f) (fun f=>M.set i (Ar e f (xs++ys))) (fun _=>L):=fun a w s t=>by
 subst q
 obtain⟨F,C⟩:=I.st t
 obtain⟨K,p⟩:=Mf b C l
 have j:h<=1024:=by simpa using A
 have G:(xs.length+ys.length)*h<=140737488355328:=Nat.le_trans (Nat.mul_le_mul (show xs.length+ys.length<=1099511627 by omega) j) (by decide)
 obtain⟨f,w',J,N⟩:=t.append (ty:=ty) H K p l B G (by omega) S
 simp only[Oper.wp,Bz s O R w,J,Result.andThen_ok,Oper.upon]
 exact⟨f,rfl,N⟩
theorem St.appendRow [cI P] {w:World} (t:St c M L w) {i:Nat} {u:Value} {k:Int} {vs:List Value} {xss:List (List α)} {ys:List α} {T E ty:TypeId} {s1 s2 X:Nat} {z Z:Value} {dE:TypeDesc} (W:M[i]? = some (fT e vs xss)) (x:Src P e.sz T u ys.length (cellsOf e ys) w) (s:(cellsOf e ys).all one=true)
  (hT:cI.tab P T=some ⟨.slice E,s1,s2,z⟩) (hE:cI.tab P E=some ⟨dE,e.sz,X,Z⟩) (U:0<=k) (h1:k<vs.length) (hb:((at' xss k).length+ys.length)*X<=140737488355328) (hl:(at' xss k).length+ys.length<=140737488355328) (hz:Z.cells.size=e.sz):
  ∃y w',(Builtin.append_ #[T,T] ty #[at' vs k,u]).run P w = .ok y w'∧St c (M.set i (fT e (vs.set k.toNat y) (xss.set k.toNat (at' xss k++ys)))) L w':=by
 have t0:=t
 obtain⟨ho,FF,V,N⟩:=t0
 have hR:=V.res i _ W
 obtain⟨o,G,S,K,C⟩:=hR
 have O:k.toNat<vs.length:=by omega
 have v:=S k.toNat _ _ (iI U h1) (iI U (by omega))
 obtain⟨y,w',F',hr,hA,j⟩:=BX.append (ty:=ty) v x s hT hE hb hl hz
 refine⟨y,w',hr,?_⟩
 refine Hb ho V N W j.os j.tape j.out j.size (fun q a hn=>j.same q a (fun h=>hn (K _ q h))) (F':=fun q=>(F' q)∨∃b,b≠k.toNat∧G b q) ?_ ?_
 ·refine⟨by simp[o],fun b q=>(b=k.toNat∧F' q)∨(b≠k.toNat∧G b q∧q<w.heap.size),?_,?_,?_⟩
  ·intro b Y A l m
   by_cases B:b=k.toNat
   ·subst B
    rw[List.getElem?_set_self O]at l
    rw[List.getElem?_set_self (by omega)]at m
    cases l;cases m
    exact aX.same (f:=Ar e y (at' xss k++ys)) hA (fun q a=> .inl ⟨rfl,a⟩) (fun _ _ _=>rfl)
   ·rw[List.getElem?_set_ne (Ne.symm B)]at l m
    exact(Ar e Y A).mono (S b Y A l m) (fun q a p=>⟨.inr ⟨B,a,p⟩,j.same q p (fun h=>B (C _ _ q a h))⟩)
  ·rintro b q (⟨_,a⟩|⟨R,a,_⟩)
   ·exact .inl a
   ·exact .inr ⟨b,R,a⟩
  ·rintro j1 j2 q (⟨I,F⟩|⟨I,F,l1⟩) (⟨J,H⟩|⟨J,H,l2⟩)
   ·rw[I,J]
   ·rcases j.sub q F with h|⟨h,_⟩
    ·exact absurd (C _ _ q H h) J
    ·omega
   ·rcases j.sub q H with h|⟨h,_⟩
    ·exact absurd (C _ _ q F h) I
    ·omega
   ·exact C _ _ q F H
 ·rintro q (a|⟨b,_,a⟩)
  ·rcases j.sub q a with h|h
   ·exact .inl (K _ q h)
   ·exact .inr h
  ·exact .inl (K _ q a)
theorem mZ [cI P] (i:Nat) {r:eM α} (b:e.Fits r) {x y:Operand} {u:Value} {k:Int} {vs:List Value} {xss:List (List α)} {ys:List α} {T E:TypeId} {X Y m j:Nat} {z v:Value} {A:TypeDesc} (U:ev σ x=some (at' vs k)) (V:ev σ y=some u) (p:M[i]? = some (fT e vs xss)) (N:aB M L (Sl r u ys))
  (o:cI.tab P T=some ⟨.slice E,X,Y,z⟩) (I:cI.tab P E=some ⟨A,m,j,v⟩) (G:e.sz=m) (H:Nat.ble j 1024=true) (B:0<=k∧k<xss.length) (Z:((at' xss k).length:Int)+ys.length<=1099511627) (W:v.cells.size=m):
  aI P c n σ M L ⟨d,.call ⟨.builtin .append,#[x,y],#[T,T]⟩,ty,pos,aft,g⟩ (fun f:Value=>f) (fun f=>M.set i (fT e (vs.set k.toNat f) (xss.set k.toNat (at' xss k++ys)))) (fun _=>L):=fun a w s t=>by
 subst G
 obtain⟨F,J⟩:=N.st t
 obtain⟨R,C⟩:=Mf b J o
 have l:j<=1024:=by simpa using H
 have K:((at' xss k).length+ys.length)*j<=140737488355328:=Nat.le_trans (Nat.mul_le_mul (show(at' xss k).length+ys.length<=1099511627 by omega) l) (by decide)
 have q:vs.length=xss.length:=by obtain⟨_,h⟩:=t.res p;exact h.1
 obtain⟨f,w',O,S⟩:=t.appendRow (ty:=ty) p R C o I B.1 (by omega) K (by omega) W
 simp only[Oper.wp,Bz s U V w,O,Result.andThen_ok,Oper.upon]
 exact⟨f,rfl,S⟩
end
end
section
section
variable {P:Program} {rd:Option Nat} {c:tE} {n:Sz} {σ:Fr} {M L M' L':List aX} {Q:Exit->Act->World->Prop} {ops:Array Oper} {rest:List Oper} {K:Act->World->Prop}
variable {d:Option Tmp} {D:Nat} {ty:TypeId} {pos:String} {aft:Array Edge} {g:Option (Nat×Bool)}
variable {α β:Type} {e:cE α} {r:eM α}
theorem St.weakE {w:World} (h:St c M L w) (j:aR M M') (i:aD [] L L'):St c M' L' w:=by
 obtain⟨l,F,b,k⟩:=h.weak (L':=L) j (fun _ h=>h)
 exact⟨l,F,b,fun f a=>i f a w (De c F) (fun _ _=>False) (De c F) k (fun _ _ h=>by simp at h) (fun _ h=>h) (fun _ _ h=>h.elim)⟩
theorem aD.refl (M L:List aX):aD M L L:=fun f a=>by
 obtain⟨j,b⟩:=List.getElem?_of_mem a
 exact aB.fact j b

def SN {A B:Type} (c:tE) (n:Sz) (C:A->Prop) (b:A->B->Fr) (h f:A->B->List aX) (a:Act) (w:World):Prop:=∃x y,C x∧DT n (b x y) a∧St c (h x y) (f x y) w
theorem xQ {A B:Type} {x:Code} (C:A->Prop) (f:A->B->Fr) (i h:A->B->List aX) (k:J c n σ M L (x.wpr rd P (Exit.then (SN c n C f i h) Q))) (m:∀a b,C a->J c n (f a b) (i a b) (h a b) K):
  J c n σ M L (x.wpr rd P (Exit.then K Q)):=fun a w s t=>Fp (fun e j w' q=>by
 cases e with
 |normal=>obtain⟨z,y,o,p,u⟩:=q;exact m z y o j w' p u
 |exit id=>exact q
 |goto l=>exact q
 |ret=>exact q
 |panic ch=>exact q
 |outgrown=>exact q) (k a w s t)
theorem bT {A B:Type} {C:A->Prop} {a:A->B->Fr} {f b:A->B->List aX} (x:A) (y:B) (h:C x) (k:xJ σ (a x y)) (j:aR M (f x y)) (i:aD [] L (b x y)):J c n σ M L (SN c n C a f b):=
 fun _ _ s t=>⟨x,y,h,s.weak k,t.weakE j i⟩

def VX {A B R:Type} (c:tE) (n:Sz) (step:A->(A->Option R)->Option R) (r:R) (b:A->B->Fr) (h f:A->B->List aX) (k:Nat) (a:Act) (w:World):Prop:=
 ∃x y,bJ step k x=some r∧DT n (b x y) a∧St c (h x y) (f x y) w
theorem Ep {A B R:Type} {body:Code} (step:A->(A->Option R)->Option R) {r:R} {fuel:Nat} (σI:A->B->Fr) (MI LI:A->B->List aX) (a0:A) (b0:B) (h:bJ step fuel a0=some r)
  (hs:xJ σ (σI a0 b0)) (hM:aR M (MI a0 b0)) (hL:aD [] L (LI a0 b0))
  (round:∀k a b,step a (bJ step k)=some r->J c n (σI a b) (MI a b) (LI a b) (body.wpr rd P (Exit.then (VX c n step r σI MI LI k) Q))):J c n σ M L ((Code.loop body).wpr rd P Q):=by
 intro a w s t
 refine SC (X:=Nat×A×B) (fun x=>bJ step x.1 x.2.1=some r) (fun x=>σI x.2.1 x.2.2) (fun x=>MI x.2.1 x.2.2) (fun x=>LI x.2.1 x.2.2) (fun x=>x.1) (fuel,a0,b0) h (xJ.refl _) (aR.refl _) (fun _ h=>h) ?_ a w (s.weak hs) (t.weakE hM hL)
 rintro⟨k,x,y⟩ hC
 cases k with
 |zero=>cases hC
 |succ k=>
  refine SD (round k x y hC) fun a w h=>Fp (fun e a' w' q=> ?_) h
  cases e with
  |normal=>obtain⟨x',y',hC',hs',ht'⟩:=q;exact⟨(k,x',y'),hC',Nat.lt_succ_self k,hs',ht'⟩
  |exit id=>exact q
  |goto l=>exact q
  |ret=>exact q
  |panic ch=>exact q
  |outgrown=>exact q
theorem kZ {A B R:Type} {step:A->(A->Option R)->Option R} {r:R} {k:Nat} {a:A->B->Fr} {f b:A->B->List aX} (x:A) (y:B) (h:bJ step k x=some r) (l:xJ σ (a x y)) (j:aR M (f x y)) (i:aD [] L (b x y)):
  J c n σ M L (VX c n step r a f b k):=fun _ _ s t=>⟨x,y,h,s.weak l,t.weakE j i⟩

variable {l:List Oper} {m:List Nat} {k0:Nat} {H Bs:List (Nat×List aX×List aX)} {rs:List Nat}
theorem bG {i f:Nat} {j:Op} {v:Value} {b a:List aX} (s:l[i]? = some ⟨some f,j,ty,pos,aft,none⟩) (p:aR M b) (o:yK L a)
  (w:Y P c n σ b a ⟨some f,j,ty,pos,aft,none⟩ v) (k:aK (before m i) b a H)
  (h:JR c n ((f,v)::σ) M L H ((i,b,a)::Bs) (RW P l.toArray Q (before m) (cK l) k0 rs))
  (t:Nat.blt i k0=true:=by exact rfl) (u:dY j=false:=by exact rfl) (q:Nat.blt f n.sz=true:=by exact rfl):JR c n σ M L H Bs (RW P l.toArray Q (before m) (cK l) k0 (i::rs)):=
 JR.quiet b a s t u w ⟨p,o⟩ k q h
theorem fF {i k:Nat} {o:Op} {v:Value} {j:Nat} {b:Bool} {f a:List aX} (w:l[i]? = some ⟨some k,o,ty,pos,aft,some (j,b)⟩) (s:aR M f) (q:yK L a)
  (z:Y P c n σ f a ⟨some k,o,ty,pos,aft,some (j,b)⟩ v) (p:aK (before m i) f a H)
  (h:JR c n ((k,v)::σ) M L H ((i,f,a)::Bs) (RW P l.toArray Q (before m) (cK l) k0 rs))
  (x:Nat.blt i k0=true:=by exact rfl) (y:dY o=false:=by exact rfl) (u:gv l.toArray σ j=some b:=by exact rfl) (t:Nat.blt k n.sz=true:=by exact rfl):JR c n σ M L H Bs (RW P l.toArray Q (before m) (cK l) k0 (i::rs)):=
 QY f a w x y u z ⟨s,q⟩ p t h

def Dz (b:Array Value):ResultVar->Sem Value
 | .tmp t=>pure (b.getD t undef)
 | .cell a t=>do loadVar t (<-asAddr (b.getD a undef))
theorem wM (fn:Func) (a:Array Value):results fn a=(do let vs <-fn.results.mapM (Dz a);pure (if h:vs.size=1 then vs[0]else .tuple vs)):=rfl
def RV (P:Program) (c:tE) (n:Sz) (σ:Fr) (M L:List aX) (b:ResultVar) (v:Value):Prop:=∀a w,DT n σ a->St c M L w->(Dz a.tmps b).run P w = .ok v w
theorem RV.tmp {t:Tmp} {v:Value} (h:lk σ t=some v):RV P c n σ M L (.tmp t) v:=fun a w s _=>by simp[Dz,s.slot t v h]
theorem RV.cell [cI P] (i:Nat) {q:Tmp} {T T':TypeId} {u:Nat} {z:Value} {f:TypeDesc} {b:Nat} {cs:List Value} (p:lk σ q=some (.pointer (some ⟨b,0,none⟩))) (h:M[i]? = some (bL b cs T')) (k:cI.tab P T=some ⟨f,cs.length,u,z⟩) (o:wD f=true):
  RV P c n σ M L (.cell q T) (.agg cs.toArray):=fun a w s t=>by
 obtain⟨F,j⟩:=t.res h
 simp[Dz,s.slot q _ p,asAddr,Vd j k o]
theorem Md [cI P] (i:Nat) {q:Tmp} {T T':TypeId} {x y:Nat} {z v:Value} {f:TypeDesc} {b:Nat} (u:lk σ q=some (.pointer (some ⟨b,0,none⟩))) (h:M[i]? = some (bL b [v] T')) (k:cI.tab P T=some ⟨f,x,y,z⟩) (p:wD f=false):
  RV P c n σ M L (.cell q T) v:=fun a w s t=>by
 obtain⟨F,j⟩:=t.res h
 have:=bL.cell j (o:=0) (v:=v) rfl
 simp[Dz,s.slot q _ u,asAddr,loadVar,(cI.ok k).run_agg w,p,load,Sem.run,this]
variable {A:Type} {ret:A->Value} {MO LO:A->List aX->List aX} {fn:Func}
theorem CN (x:A) (p:ret x = .tuple #[]) (b:fn.results = #[]) (f:Exit) (o:f = .ret∨f = .normal) (k:aR M (MO x [])) (j:aD [] L (LO x [])) (i:n.ds=[]:=by rfl):J c n σ M L (fV P fn (KE c ret MO LO) f):=fun a w s t=>
 YC x f o (fun a w s t=>by simp[results,b,p]) k (fun _ h=>h) i a w s (t.weakE (aR.refl _) j)
theorem gY (x:A) {h:ResultVar} {i:Value} (q:ret x=i) (b:fn.results = #[h]) (j:RV P c n σ M L h i) (o:aR M (MO x [])) (k:aD [] L (LO x [])) (f:n.ds=[]:=by rfl):J c n σ M L (fV P fn (KE c ret MO LO) .ret):=fun a w s t=>by
 have p:(results fn a.tmps).run P w = .ok (ret x) w:=by
  have:=j a w s t
  simp only[wM,b]
  simp[q,this]
 exact body_end (.inl rfl) (s.defers.trans f) p ⟨x,rfl,t.weakE o k⟩
theorem iO (x:A) {j k:ResultVar} {o p:Value} (y:ret x = .tuple #[o,p]) (b:fn.results = #[j,k]) (f:RV P c n σ M L j o) (h:RV P c n σ M L k p) (u:aR M (MO x [])) (q:aD [] L (LO x [])) (i:n.ds=[]:=by rfl):J c n σ M L (fV P fn (KE c ret MO LO) .ret):=fun a w s t=>by
 have v:(results fn a.tmps).run P w = .ok (ret x) w:=by
  have f:=f a w s t
  have h:=h a w s t
  simp only[wM,b]
  simp[y,f,h]
 exact body_end (.inl rfl) (s.defers.trans i) v ⟨x,rfl,t.weakE u q⟩
theorem GY (x:A) {k o p:ResultVar} {q u v:Value} (C:ret x = .tuple #[q,u,v]) (b:fn.results = #[k,o,p]) (f:RV P c n σ M L k q) (h:RV P c n σ M L o u) (i:RV P c n σ M L p v) (z:aR M (MO x [])) (y:aD [] L (LO x [])) (j:n.ds=[]:=by rfl):J c n σ M L (fV P fn (KE c ret MO LO) .ret):=fun a w s t=>by
 have B:(results fn a.tmps).run P w = .ok (ret x) w:=by
  have f:=f a w s t
  have h:=h a w s t
  have i:=i a w s t
  simp only[wM,b]
  simp[C,f,h,i]
 exact body_end (.inl rfl) (s.defers.trans j) B ⟨x,rfl,t.weakE z y⟩

def wI:IntKind->Int->Int
 | .i64,x=>if -9223372036854775808<=x∧x<=9223372036854775807 then x else IntKind.i64.wrap x
 | .u32,x=>if 0<=x∧x<=4294967295 then x else IntKind.u32.wrap x
 |k,x=>k.wrap x
theorem DK (k:IntKind) (x:Int):wI k x=k.wrap x:=by
 unfold wI
 split
 ·split
  ·rename_i h;exact(Kt h.1 h.2).symm
  ·rfl
 ·split
  ·rename_i h
   unfold IntKind.wrap
   simp only[IntKind.bits,IntKind.signed]
   simp
   omega
  ·rfl
 ·rfl
theorem wB {t h:TypeId} {x y:Operand} {k:IntKind} {p q:Int} (b:ev σ x=some (.int k p)) (f:ev σ y=some (.int k q)):
  Y P c n σ M L ⟨d,.binOp .add t x y h,ty,pos,aft,g⟩ (.int k (wI k (p+q))):=fun a w s _=>by
 simp[DK,execOp,s.eval b,s.eval f,binOp,Op.intArith,iK]
theorem pO {t h:TypeId} {x y:Operand} {k:IntKind} {p q:Int} (b:ev σ x=some (.int k p)) (f:ev σ y=some (.int k q)):
  Y P c n σ M L ⟨d,.binOp .sub t x y h,ty,pos,aft,g⟩ (.int k (wI k (p - q))):=fun a w s _=>by
 simp[DK,execOp,s.eval b,s.eval f,binOp,Op.intArith,iK]
theorem Be {t h:TypeId} {x y:Operand} {k:IntKind} {p q:Int} (b:ev σ x=some (.int k p)) (f:ev σ y=some (.int k q)):
  Y P c n σ M L ⟨d,.binOp .mul t x y h,ty,pos,aft,g⟩ (.int k (wI k (p*q))):=fun a w s _=>by
 simp[DK,execOp,s.eval b,s.eval f,binOp,Op.intArith,iK]
theorem Tc {t i:TypeId} {x y:Operand} {k:IntKind} {p q:Int} (b:ev σ x=some (.int k p)) (f:ev σ y=some (.int k q)) (h:q≠0):
  Y P c n σ M L ⟨d,.binOp .quo t x y i,ty,pos,aft,g⟩ (.int k (wI k (p.tdiv q))):=fun a w s _=>by
 simp[DK,execOp,s.eval b,s.eval f,binOp,Op.intDiv,iK,h]
def cD (k:IntKind) (x y:Int):Int:=k.wrap (BitVec.ofInt k.bits x &&& BitVec.ofInt k.bits y).toNat
def Em (k:IntKind) (x y:Int):Int:=k.wrap (BitVec.ofInt k.bits x ||| BitVec.ofInt k.bits y).toNat
def uS (k:IntKind) (x y:Int):Int:=k.wrap (BitVec.ofInt k.bits x &&& ~~~BitVec.ofInt k.bits y).toNat
def xS (k:IntKind) (x y:Int):Int:=k.wrap (x*2^(min y.toNat k.bits))
def nZ (k:IntKind) (x y:Int):Int:=x.fdiv (2^(min y.toNat k.bits))
theorem JC {t h:TypeId} {x y:Operand} {k:IntKind} {p q:Int} (b:ev σ x=some (.int k p)) (f:ev σ y=some (.int k q)):
  Y P c n σ M L ⟨d,.binOp .and t x y h,ty,pos,aft,g⟩ (.int k (cD k p q)):=fun a w s _=>by
 simp[execOp,s.eval b,s.eval f,binOp,Op.intBits,iK,cD]
theorem Mq {t h:TypeId} {x y:Operand} {k:IntKind} {p q:Int} (b:ev σ x=some (.int k p)) (f:ev σ y=some (.int k q)):
  Y P c n σ M L ⟨d,.binOp .or t x y h,ty,pos,aft,g⟩ (.int k (Em k p q)):=fun a w s _=>by
 simp[execOp,s.eval b,s.eval f,binOp,Op.intBits,iK,Em]
theorem Cd {t h:TypeId} {x y:Operand} {k:IntKind} {p q:Int} (b:ev σ x=some (.int k p)) (f:ev σ y=some (.int k q)):
  Y P c n σ M L ⟨d,.binOp .andNot t x y h,ty,pos,aft,g⟩ (.int k (uS k p q)):=fun a w s _=>by
 simp[execOp,s.eval b,s.eval f,binOp,Op.intBits,iK,uS]
theorem Gj {t j:TypeId} {x y:Operand} {k i:IntKind} {p q:Int} (b:ev σ x=some (.int k p)) (f:ev σ y=some (.int i q)) (h:0<=q):
  Y P c n σ M L ⟨d,.binOp .shl t x y j,ty,pos,aft,g⟩ (.int k (xS k p q)):=fun a w s _=>by
 have:¬q<0:=by omega
 simp[execOp,s.eval b,s.eval f,binOp,Op.shift,iK,xS,this]
theorem Ez {t j:TypeId} {x y:Operand} {k i:IntKind} {p q:Int} (b:ev σ x=some (.int k p)) (f:ev σ y=some (.int i q)) (h:0<=q):
  Y P c n σ M L ⟨d,.binOp .shr t x y j,ty,pos,aft,g⟩ (.int k (nZ k p q)):=fun a w s _=>by
 have:¬q<0:=by omega
 simp[execOp,s.eval b,s.eval f,binOp,Op.shift,iK,nZ,this]
theorem HG [cI P] {t h:TypeId} {x:Operand} {k f:IntKind} {p:Int} {o q u v:Nat} {z y:Value} (j:ev σ x=some (.int k p)) (i:cI.tab P t=some ⟨.int k,o,q,z⟩) (b:cI.tab P h=some ⟨.int f,u,v,y⟩):
  Y P c n σ M L ⟨d,.convert t h x,ty,pos,aft,g⟩ (.int f (wI f p)):=fun a w s _=>by
 simp[DK,execOp,s.eval j,convert,(cI.ok i).run_und w,(cI.ok b).run_und w,Conv.intToInt]
theorem Pt {t:TypeId} {x:Operand} {k:IntKind} {p:Int} (b:ev σ x=some (.int k p)):Y P c n σ M L ⟨d,.unOp .neg t x,ty,pos,aft,g⟩ (.int k (wI k (0 - p))):=fun a w s _=>by
 simp[DK,execOp,s.eval b,Op.unary,Op.intArith]
theorem XP [cI P] {t:TypeId} {f h:Nat} {z:Value} (b:cI.tab P t=some ⟨.bool,f,h,z⟩) (p q:Bool) (w:World):(Op.equal t (.bool p) (.bool q)).run P w = .ok (p==q) w:=by
 have a:∀m:Nat,(Op.equalIn (m+1) t (.bool p) (.bool q)).run P w = .ok (p==q) w:=fun m=>by simp[Op.equalIn,(cI.ok b).run_und w]
 exact a 9999
theorem Ta [cI P] {t k:TypeId} {x y:Operand} {p q:Bool} {i j:Nat} {z:Value} (f:ev σ x=some (.bool p)) (h:ev σ y=some (.bool q)) (b:cI.tab P t=some ⟨.bool,i,j,z⟩):
  Y P c n σ M L ⟨d,.binOp .neq t x y k,ty,pos,aft,g⟩ (.bool (p != q)):=fun a w s _=>by
 simp[execOp,s.eval f,s.eval h,binOp,eqGuard,XP b,bne]
end
end
section
def cE.pair {c d:Type} (a:cE c) (b:cE d):cE (c×d):=⟨a.sz+b.sz,Nat.lt_of_lt_of_le a.pos (Nat.le_add_right _ _),fun x=>a.enc x.1++b.enc x.2,fun x=>by simp[a.len,b.len]⟩
theorem gV {c d:Type} {a:cE c} {b:cE d} {r:eM c} {s:eM d} (h:a.Fits r) (k:b.Fits s):(a.pair b).Fits (r.pair s):=by
 obtain⟨e,f,g,i⟩:=h
 obtain⟨j,l,m,n⟩:=k
 refine⟨by simp[cE.pair,eM.pair,e,j],?_,?_,?_⟩
 ·rintro w S u x ⟨q,t,rfl,o,p⟩
  rw[f o,l p];rfl
 ·intro w S x;exact⟨_,_,rfl,g,m⟩
 ·intro x
  simp only[cE.pair,List.all_append,i,n,Bool.and_self]
section
variable {P:Program} {rd:Option Nat} {c:tE} {n:Sz} {σ:Fr} {M L M' L':List aX} {Q:Exit->Act->World->Prop} {ops:Array Oper} {rest:List Oper} {K:Act->World->Prop}
variable {d:Option Tmp} {D:Nat} {ty:TypeId} {pos:String} {aft:Array Edge} {g:Option (Nat×Bool)}
variable {α β:Type} {e:cE α} {r:eM α}
theorem L_ {A:Type} {o:Oper} {f:A->Value} {xs:List α} (h:aI P c n σ M L o f (fun b=>Ar e (f b) xs::M) (fun _=>L)):aI P c n σ M L o (fun v:Value=>v) (fun v=>Ar e v xs::M) (fun _=>L):=fun a w s t=>
 mL (fun _ _ ⟨x,i,j⟩=>⟨f x,i,j⟩) (h a w s t)
theorem Gl (e:cE α) (k:Nat) (x:α):(cellsOf e (List.replicate k x))=(List.replicate k (e.enc x)).flatten:=by
 induction k with
 |zero=>rfl
 |succ k a=>simp only[List.replicate_succ,cellsOf,List.flatMap_cons,List.flatten_cons]at *;rw[a]
theorem Uw (cs:List Value) (j:cs≠[]) (k:Nat):(madeCells cs.toArray (k*cs.length)).toList=(List.replicate k cs).flatten:=by
 have a:0<cs.length:=List.length_pos_iff.2 j
 apply List.ext_getElem
 ·simp[madeCells]
 ·intro i l o
  have p:i<k*cs.length:=by simpa [madeCells]using l
  have m:i%cs.length<cs.length:=Nat.mod_lt _ a
  have f:∀(k i:Nat) (h:i<((List.replicate k cs).flatten).length),((List.replicate k cs).flatten)[i]=cs[i%cs.length]'(Nat.mod_lt _ a):=by
   intro k
   induction k with
   |zero=>intro i h;simp at h
   | succ k ih =>
    intro i h
    simp only[List.replicate_succ,List.flatten_cons]
    by_cases b:i<cs.length
    ·rw[List.getElem_append_left b]
     simp[Nat.mod_eq_of_lt b]
    ·rw[List.getElem_append_right (by omega)]
     rw[ih]
     congr 1
     rw[<-Nat.mod_eq_sub_mod (by omega)]
  rw[f]
  simp[madeCells,m]
theorem pN [cI P] {T E:TypeId} {G H j f:Nat} {z m:Value} {o:TypeDesc} {x:Operand} {k:Int} (a:α)
  (y:cI.tab P T=some ⟨.slice E,G,H,z⟩) (w:cI.tab P E=some ⟨o,j,f,m⟩) (C:ev σ x=some (.int .i64 k)) (s:Nat.ble f 1024=true) (h:0<=k∧k<=1099511627) (q:e.sz=j)
  (F:m.cells=(e.enc a).toArray) (p:(e.enc a).all one=true):
  aI P c n σ M L ⟨d,.makeSlice T x x,ty,pos,aft,g⟩ (fun v:Value=>v) (fun v=>Ar e v (List.replicate k.toNat a)::M) (fun _=>L):=by
 have t:f<=1024:=by simpa using s
 subst q
 have i:e.enc a≠[]:=by
  intro h;have:=e.len a;rw[h]at this;have:=e.pos;simp at *;omega
 refine L_ (aI.makeSlice (List.replicate k.toNat a) y w C h.1 ?_ (by omega) (by simp) ?_ ?_)
 ·have:=Int.mul_le_mul (show(f:Int)<=1024 by omega) h.2 h.1 (by decide)
  omega
 ·rw[F,Gl,<-e.len a]
  exact Uw _ i _
 ·rw[Gl,List.all_eq_true]
  intro u B
  obtain⟨l,A,b⟩:=List.mem_flatten.1 B
  rw[(List.mem_replicate.1 A).2]at b
  exact List.all_eq_true.1 p u b
theorem bU [cI P] {T E:TypeId} {k u w f x:Nat} {z y:Value} {h:TypeDesc} {ps:List (Nat×Operand)} (xs:List α) (vs:List (Nat×Value))
  (t:ps.map (fun p=>(p.1,ev σ p.2))=vs.map (fun p=>(p.1,some p.2))) (m:cI.tab P T=some ⟨.slice E,u,w,z⟩) (l:cI.tab P E=some ⟨h,f,x,y⟩) (s:Nat.ble (k*f) 16777216=true)
  (b:∀a:Array Value,a.size=k*f->Instr.fill (fun i=>some (i*f,f)) a vs=some (cellsOf e xs).toArray)
  (o:xs.length=k) (q:Nat.ble xs.length 140737488355328=true) (j:(cellsOf e xs).all one=true):
  aI P c n σ M L ⟨d,.buildSlice T k ps.toArray,ty,pos,aft,g⟩ (fun v:Value=>v) (fun v=>Ar e v xs::M) (fun _=>L):=
 L_ (aI.buildSlice xs m l s t b o q j)
theorem xH [cI P] (j:Nat) {T:TypeId} {t:Nat} {z:Value} {f:TypeDesc} {x y:Operand} {v u:Value} {i:Int} {xs:List α} (b:α) (h:0<=i∧i<xs.length) (q:ev σ x=some (CS v (i.toNat*1))) (s:ev σ y=some u)
  (l:M[j]? = some (Ar e v xs)) (p:e.enc b=[u]) (a:one u=true) (k:cI.tab P T=some ⟨f,1,t,z⟩) (o:e.sz=1)
  (m:J c n σ (M.set j (Ar e v (xs.set i.toNat b))) L (wpList P ops Q rest)):
  J c n σ M L (wpList P ops Q (⟨none,.store T x y,ty,pos,aft,none⟩::rest)):=LV j b q s p a l k o h.1 h.2 m
theorem nY [cI P] (j q:Nat) {T:TypeId} {F:Nat} {z:Value} {m:TypeDesc} {x y:Operand} {v u:Value} {i:Int} {vs b:List Value} {xss:List (List α)} (h:0<=i∧i<xss.length) (C:ev σ x=some (CS v (i.toNat*1))) (E:ev σ y=some u)
  (p:M[j]? = some (Ar cE.raw v vs)) (B:M[q]? = some (fT e b xss)) (k:vs.set i.toNat u=b) (G:b.length=vs.length) (f:one u=true) (o:cI.tab P T=some ⟨m,1,F,z⟩)
  (A:J c n σ (M.set j (Ar cE.raw v b)) L (wpList P ops Q rest)):
  J c n σ M L (wpList P ops Q (⟨none,.store T x y,ty,pos,aft,none⟩::rest)):=fun a w s t=>by
 have l:b.length=xss.length:=by obtain⟨_,h⟩:=t.res B;exact h.1
 exact LV j u C E rfl f p o rfl h.1 (by omega) (by rw[k];exact A) a w s t
theorem LX [cI P] (j:Nat) {T E:TypeId} {s1 s2 s3 s4:Nat} {z z':Value} {dE:TypeDesc} {x I:Operand} {v:Value} {i:Int} {xs:List α} (h:0<=i∧i<=xs.length) (hx:ev σ x=some v) (B:ev σ I=some (.int .i64 i)) (H:M[j]? = some (Ar e v xs))
  (hT:cI.tab P T=some ⟨.slice E,s1,s2,z⟩) (Z:cI.tab P E=some ⟨dE,s3,s4,z'⟩) (h3:e.sz=s3):
  aI P c n σ M L ⟨d,.slice T x (some I) none none,ty,pos,aft,g⟩ (fun U:Value=>U) (fun U=>M.set j (Ar e U (xs.drop i.toNat))) (fun _=>L):=fun a w s t=>by
 subst h3
 obtain⟨h0,Y⟩:=h
 obtain⟨F,G⟩:=t.res H
 have A:(cellsOf e (xs.drop i.toNat))=(cellsOf e xs).drop (i.toNat*e.sz):=by
  have:cellsOf e xs=cellsOf e (xs.take i.toNat)++cellsOf e (xs.drop i.toNat):=by rw[<-uT,List.take_append_drop]
  have hl:(cellsOf e (xs.take i.toNat)).length=i.toNat*e.sz:=by rw[dU,List.length_take,Nat.min_eq_left (by omega)]
  rw[this,<-hl,List.drop_left]
 have p:(cellsOf e (xs.drop i.toNat)).all one=true:=by
  rw[A,List.all_eq_true];intro u hu;exact List.all_eq_true.1 G.2.1 u (List.mem_of_mem_drop hu)
 obtain⟨hl,ac,N⟩:=G
 rcases N with⟨rfl,rfl⟩|⟨b,k,cap,T',o,rfl,ad,J,hk,hc,ht⟩
 ·have O:i=0:=by simp at Y;omega
  subst O
  have f:(execOp a.eval ⟨d,.slice T x (some I) none none,ty,pos,aft,g⟩).run P w = .ok (.value (.slice none 0 0)) w:=by
   simp[execOp,s.eval hx,s.eval B,Instr.sliceAt,Instr.slice,(cI.ok hT).run_und w,Instr.sliceBounds,Instr.sliceBound,asIntOf,(cI.ok Z).run_size w]
  simp only[Oper.wp,f,Oper.upon]
  refine⟨.slice none 0 0,rfl,?_⟩
  have:M.set j (Ar e (.slice none 0 0) (([]:List α).drop (0:Int).toNat))=M:=by
   apply List.ext_getElem?
   intro q
   by_cases X:q=j
   ·subst X;rw[List.getElem?_set_self (aZ H),H];rfl
   ·rw[List.getElem?_set_ne (Ne.symm X)]
  rw[this];exact t
 ·have R:i<=(xs.length:Int):=Y
  have f:(execOp a.eval ⟨d,.slice T x (some I) none none,ty,pos,aft,g⟩).run P w = .ok (.value (.slice (if cap=i.toNat then some ⟨b,k,none⟩else some ⟨b,k+i.toNat*e.sz,none⟩) (xs.length - i.toNat) (cap - i.toNat))) w:=by
   simp[execOp,s.eval hx,s.eval B,Instr.sliceAt,Instr.slice,(cI.ok hT).run_und w,Instr.sliceBounds,Instr.sliceBound,asIntOf,(cI.ok Z).run_size w,h0,R,eG]
  simp only[Oper.wp,f,Oper.upon]
  refine⟨_,rfl,?_⟩
  refine t.upd H rfl rfl rfl (Nat.le_refl _) fun F G _=>⟨fun _ _ _=>rfl,F,?_,fun _ h=> .inl h⟩
  obtain⟨_,_,N⟩:=G
  rcases N with⟨S,_⟩|⟨b',aa,V,ab,W,S,l,y,_⟩
  ·cases S
  ·cases S
   rw[J]at y;cases y
   refine⟨by simp;omega,p,.inr ?_⟩
   by_cases m:cap=i.toNat
   ·have C:xs.drop i.toNat=[]:=List.drop_of_length_le (by omega)
    rw[if_pos m,C]
    exact⟨b,k,cap - i.toNat,T',o,by simp;omega,l,J,by simp,by have:=Nat.mul_le_mul_right e.sz (show cap - i.toNat<=cap by omega);omega,by simp[cellsOf]⟩
   ·rw[if_neg m]
    refine⟨b,k+i.toNat*e.sz,cap - i.toNat,T',o,by simp,l,J,by simp;omega,?_,?_⟩
    ·have:=Nat.mul_le_mul_right e.sz (show i.toNat<=cap by omega)
     rw[Nat.sub_mul];omega
    ·rw[A,<-ht,List.drop_take,List.drop_drop,List.length_drop,Nat.sub_mul]
end
end
end Go.Sx
end
