/- Models and proofs. Conditions: none. -/
import Derived.WalkKit
import Derived.RangeFuncRecord
import Derived.OrdersIn
import Derived.TacticsIn
import Derived.DefersIn
import Derived.Test.YthnplbmmlbnelaaGreatProg
import Derived.Deep.AppendSrc
import Derived.Test.YthnplbmmlbnelaaGreatRows
import Derived.ProofKit
import Derived.Deep.Slices
import Derived.Lib.SmallJoins
import Derived.Maps.RangeRun
set_option linter.unusedVariables false
set_option linter.unusedSimpArgs false
set_option maxHeartbeats 4000000
set_option maxRecDepth 20000
section
namespace Go.Sx
open Go.RowKit
section
def FR (r:Option Nat):Fence:={Fence.wide with round:=r}
theorem IZ (P:Program) (r:Option Nat):Machine.fenced P (FR r)=Machine.fenced P Fence.wide:=rfl
theorem NF (r:Option Nat) (n:Nat):(FR r).room n:=fun _ h=>by cases h
theorem Te {r:Option Nat} {n:Nat} {P:Program} {f:FuncId} {args:Array Value} {w:World} {R:Ending->World->Prop} (h:Calls P f args w R):CallsIn (FR r) n P f args w R:=
 ⟨trivial,fun cs _=>let ⟨e,w',fr,hr,s,x⟩:=h cs;⟨e,w',fr,hr,(IZ P r▸comesIn_wide.2 s),x⟩⟩
theorem Lp {r:Option Nat} {n:Nat} {P:Program} {f:FuncId} {args:Array Value} {w:World} {R:Ending->World->Prop} (h:CallsIn (FR r) n P f args w R):Calls P f args w R:=
 fun cs=>let ⟨e,w',fr,hr,s,x⟩:=h.2 cs (NF r _);⟨e,w',fr,hr,ComesIn.comes s,x⟩
def _root_.Go.Code.wpr (r:Option Nat) (P:Program) (c:Code) (Q:Exit->Act->World->Prop) (a:Act) (w:World):Prop:=c.wpIn (FR r) 0 P Q a w
section
variable {r:Option Nat} {P:Program} {Q:Exit->Act->World->Prop} {a:Act} {w:World}
theorem Mj {c:Code} {Q':Exit->Act->World->Prop} (hq:∀e a w,Q e a w->Q' e a w) (h:c.wpr r P Q a w):c.wpr r P Q' a w:=Code.wpIn_mono hq h
theorem ON {x y:Code} (h:x.wpr r P (Exit.then (y.wpr r P Q) Q) a w):(Code.seq x y).wpr r P Q a w:=wpIn_seq h
theorem JD {id:Nat} {x:Code} (h:x.wpr r P (Exit.inBlock id Q) a w):(Code.block id x).wpr r P Q a w:=wpIn_block h
theorem Mk (h:Q .normal a w):Code.skip.wpr r P Q a w:=wpIn_skip h
theorem Mi {id:Nat} (h:Q (.exit id) a w):(Code.exit id).wpr r P Q a w:=wpIn_exit h
theorem OM (h:Q .ret a w):Code.ret.wpr r P Q a w:=wpIn_ret h
theorem DW {x:Operand} {th el:Code} {b:Bool} (hc:a.eval x = .bool b) (ht:b=true->th.wpr r P Q a w) (hf:b=false->el.wpr r P Q a w):(Code.cond x th el).wpr r P Q a w:=wpIn_cond_split hc ht hf
def _root_.Go.Oper.rnd (P:Program) (o:Oper) (a:Act) (w:World) (K:Act->World->Prop):Prop:=
 ∃l f tmps assign body w',(execOp a.eval o).run P w = .ok (.round l f tmps assign body) w'∧RoundIn (FR none) 0 P l f tmps assign body w' fun e w''=>∃v,e = .returned v∧K (a.put o.dst v) w''
theorem _root_.Go.Oper.rnd_mono {o:Oper} {K K':Act->World->Prop} (hk:∀a w,K a w->K' a w) (h:o.rnd P a w K):o.rnd P a w K':=by
 obtain⟨l,f,tmps,assign,body,w',h1,h2⟩:=h
 exact⟨l,f,tmps,assign,body,w',h1,h2.mono fun e w'' ⟨v,he,hv⟩=>⟨v,he,hk _ _ hv⟩⟩
def iS (o:Oper):Bool:=match o.op with|.defer _=>false|_=>true
theorem RP {o:Oper} (h:iS o=true) (r:Option Nat) (ρ:Operand->Value):o.semAt r ρ=execOp ρ o:=
 Oper.semAt_eq r ρ o fun c hc=>by unfold iS at h;rw[hc]at h;cases h
theorem VV {n:Nat} {row:String} {args:Array Value} {R:Value->World->Prop} (h:Rows P row args w R):RowsIn (FR r) n P row args w R:=fun c cs _=>
 let ⟨v,w',hr,s⟩:=h c cs;⟨v,w',hr,(IZ P r▸stepsIn_wide.2 s)⟩
theorem Uq {o:Oper} {K:Act->World->Prop} (hd:iS o=true) (h:o.wp P a w K Q∨o.rnd P a w K):o.wpIn (FR r) 0 P a w K Q:=by
 refine⟨fun _ _=>trivial,?_⟩
 rw[RP hd]
 rcases h with h|h
 ·unfold Oper.wp at h
  cases hr:(execOp a.eval o).run P w with
  | ok x w' =>
   rw[hr]at h
   cases x with
   |value v=>exact h
   |skip=>exact h
   |defer d=>exact h
   |enter f args=>
    refine⟨(fun hc=>by cases hc),(Te h).mono ?_⟩
    intro e w'' he
    cases e<;>exact he
   |row rw args=>exact⟨(fun hc=>by cases hc),VV h⟩
   |_=>exact h.elim
  |halt x w'=>
   rw[hr]at h
   cases x<;>first|exact h|exact h.elim
 ·obtain⟨l,f,tmps,assign,body,w',h1,h2⟩:=h
  rw[h1]
  refine⟨(fun hc=>by cases hc),?_⟩
  exact⟨trivial,fun c cs _=>by
   obtain⟨e,w'',⟨v,he,hv⟩,s⟩:=h2.2 c cs (NF none _)
   subst he
   exact⟨.returned v,w'',hv,s⟩⟩
end
def wpList (P:Program) (ops:Array Oper) (Q:Exit->Act->World->Prop):List Oper->Act->World->Prop
 | [],a,w=>Q .normal a w
 |o::rest,a,w=>
  if Region.wanted o (yielded ops a.tmps)then o.wp P a w (wpList P ops Q rest) Q∨o.rnd P a w (wpList P ops Q rest)else wpList P ops Q rest (a.put o.dst undef) w
theorem wpList_in {r:Option Nat} {P:Program} {ops:Array Oper} {Q:Exit->Act->World->Prop}:∀(l:List Oper) (a:Act) (w:World),l.all iS=true->wpList P ops Q l a w->wpListIn (FR r) 0 P ops Q l a w
 | [],_,_,_,h=>h
 | o :: rest, a, w, hd, h => by
  simp only[List.all_cons,Bool.and_eq_true]at hd
  unfold wpList at h
  unfold wpListIn
  by_cases hw:Region.wanted o (yielded ops a.tmps)=true
  ·rw[if_pos hw]at h ⊢
   refine Uq hd.1 ?_
   rcases h with h|h
   ·exact .inl (Oper.wp_mono (fun a w h=>wpList_in rest a w hd.2 h) h)
   ·exact .inr (Oper.rnd_mono (fun a w h=>wpList_in rest a w hd.2 h) h)
  ·rw[if_neg hw]at h ⊢
   exact⟨fun _ _=>trivial,wpList_in rest _ w hd.2 h⟩
theorem uC {r:Option Nat} {P:Program} {Q:Exit->Act->World->Prop} {a:Act} {w:World} {id:Nat} {l:List Oper} (hd:l.all iS=true) (h:wpList P l.toArray Q l a w):(Code.region id l.toArray false).wpr r P Q a w:=
 wpIn_region_lit (wpList_in l a w hd h)
def wpOp (P:Program) (ops:Array Oper) (Q:Exit->Act->World->Prop) (i:Nat) (K:Act->World->Prop) (a:Act) (w:World):Prop:=
 match ops[i]? with
 |none=>K a w
 |some o=>if Region.wanted o (yielded ops a.tmps)then o.wp P a w K Q∨o.rnd P a w K else K (a.put o.dst undef) w
def IC (P:Program) (ops:Array Oper) (Q:Exit->Act->World->Prop):List Nat->Act->World->Prop
 | [],a,w=>Q .normal a w
 |i::rest,a,w=>wpOp P ops Q i (IC P ops Q rest) a w
theorem ND {P:Program} {ops:Array Oper} {Q:Exit->Act->World->Prop} (i:Nat) (rest:List Nat) (a:Act) (w:World):IC P ops Q (i::rest) a w=wpOp P ops Q i (IC P ops Q rest) a w:=rfl
def wpAny (P:Program) (md:Region.Mode) (ops:Array Oper) (Q:Exit->Act->World->Prop):Nat->Array Bool->Act->World->Prop
 |0,listed,a,w=>Region.ready md ops listed=[]∧Q .normal a w
 |fuel+1,listed,a,w=>
  (Region.ready md ops listed=[]->Q .normal a w)∧
  ∀i∈Region.ready md ops listed,wpOp P ops Q i (wpAny P md ops Q fuel (listed.setIfInBounds i true)) a w
section
variable {r:Option Nat} {P:Program} {ops:Array Oper} {Q:Exit->Act->World->Prop}
theorem OL {i:Nat} {K K':Act->World->Prop} {a:Act} {w:World} (hd:∀o,ops[i]? = some o->iS o=true) (hk:∀a w,K a w->K' a w) (h:wpOp P ops Q i K a w):wpOpIn (FR r) 0 P ops Q i K' a w:=by
 unfold wpOp at h
 unfold wpOpIn
 cases ho:ops[i]? with
 |none=>rw[ho]at h;exact hk _ _ h
 | some o =>
  rw[ho]at h
  dsimp only at h ⊢
  by_cases hw:Region.wanted o (yielded ops a.tmps)=true
  ·rw[if_pos hw]at h ⊢
   refine Uq (hd o ho) ?_
   rcases h with h|h
   ·exact .inl (Oper.wp_mono hk h)
   ·exact .inr (Oper.rnd_mono hk h)
  ·rw[if_neg hw]at h ⊢
   exact⟨fun _ _=>trivial,hk _ _ h⟩
theorem Mg (hd:∀(i:Nat) (o:Oper),ops[i]? = some o->iS o=true):∀(s:List Nat) (a:Act) (w:World),IC P ops Q s a w->wpOpsIn (FR r) 0 P ops Q s a w
 | [],_,_,h=>h
 |i::rest,a,w,h=>by
  rw[wpOpsIn_cons]
  exact OL (hd i) (fun a w h=>Mg hd rest a w h) h
theorem Mf {md:Region.Mode} (hd:∀(i:Nat) (o:Oper),ops[i]? = some o->iS o=true):∀(fuel:Nat) (listed:Array Bool) (a:Act) (w:World),wpAny P md ops Q fuel listed a w->wpAnyIn (FR r) 0 P md ops Q fuel listed a w
 |0,_,_,_,h=>h
 |fuel+1,listed,a,w,h=>⟨h.1,fun i hi=>OL (hd i) (fun a w h=>Mf hd fuel _ a w h) (h.2 i hi)⟩
theorem GY {l:List Oper} (h:l.all iS=true) (i:Nat) (o:Oper) (ho:l.toArray[i]? = some o):iS o=true:=by
 have hm:o∈l:=by
  rw[List.getElem?_toArray]at ho
  exact List.mem_of_getElem? ho
 exact List.all_eq_true.1 h o hm
theorem DX {id:Nat} {l:List Oper} {a:Act} {w:World} (hd:l.all iS=true) (hm:P.follows .mixedOrders=true)
  (h:wpAny P .any l.toArray Q l.toArray.size (Array.replicate l.toArray.size false) a {w with drawn:=w.drawn+1}):(Code.region id l.toArray true).wpr r P Q a w:=
 wpIn_region_any hm (Mf (GY hd) _ _ _ _ h)
theorem Hf {id:Nat} {l:List Oper} {a:Act} {w:World} (hd:l.all iS=true)
  (h:∀t,IC P l.toArray Q (Region.schedule (P.follows .mixedOrders) l.toArray t) a {w with drawn:=w.drawn+1}):(Code.region id l.toArray true).wpr r P Q a w:=
 wpIn_region_draw fun t=>Mg (GY hd) _ _ _ (h t)
end
def u_ (P:Program) (fn:Func) (R:Ending->World->Prop):Exit->Act->World->Prop:=bodyPostM (FR none) 0 P fn R
theorem AP {P:Program} {f:FuncId} {fn:Func} {c:Code} {args:Array Value} {w:World} {R:Ending->World->Prop} (hf:P.funcs[f]? = some fn) (hb:fn.body=some c)
  (h:c.wpr none P (u_ P fn R) {tmps:=args++Array.replicate (fn.ntmps - args.size) undef,defers:=[]} w):Calls P f args w R:=
 Lp (r:=none) (callsIn_of_wp_marks hf hb trivial h)
theorem body_end {P:Program} {fn:Func} {R:Ending->World->Prop} {a:Act} {w:World} {v:Value} {e:Exit} (he:e = .ret∨e = .normal) (hd:a.defers=[]) (hr:(results fn a.tmps).run P w = .ok v w) (hR:R (.returned v) w):u_ P fn R e a w:=by
 rcases he with rfl|rfl
 ·show LeavesInM (FR none) 0 P fn a.tmps R a.defers .returning w
  rw[hd];exact⟨v,hr,hR⟩
 ·show LeavesInM (FR none) 0 P fn a.tmps R a.defers .returning w
  rw[hd];exact⟨v,hr,hR⟩
end
section
abbrev Fr:=List (Nat×Value)
def lk:Fr->Nat->Option Value
 | [],_=>none
 |(k,v)::r,t=>bif Nat.beq t k then some v else lk r t
def ev (σ:Fr):Operand->Option Value
 | .tmp t=>lk σ t
 | .const v=>some v
 | .global g=>some (.pointer (some ⟨g,0,none⟩))
 | .func f=>some (.func (.func f) #[] #[])
structure Sz where
 sz:Nat
 ds:List Deferred
structure GG (n:Sz) (σ:Fr) (a:Act):Prop where
 defers:a.defers=n.ds
 size:a.tmps.size=n.sz
 slot:∀t v,lk σ t=some v->a.tmps[t]? = some v
theorem GG.eval {n:Sz} {σ:Fr} {a:Act} (h:GG n σ a) {x:Operand} {v:Value} (hx:ev σ x=some v):a.eval x=v:=by
 cases x with
 |tmp t=>simp only[ev]at hx;have:=h.slot t v hx;simp[Act.eval,this]
 |const u=>simpa [ev,Act.eval]using hx
 |global g=>simpa [ev,Act.eval]using hx
 |func f=>simpa [ev,Act.eval]using hx
theorem nX {t d:Nat} (e:t≠d):Nat.beq t d=false:=by
 cases h:Nat.beq t d with
 |false=>rfl
 |true=>exact absurd (Nat.eq_of_beq_eq_true h) e
theorem GG.put {n:Sz} {σ:Fr} {a:Act} (h:GG n σ a) (d:Nat) (v:Value) (hd:Nat.blt d n.sz=true):GG n ((d,v)::σ) (a.put (some d) v):=by
 have hd':d<n.sz:=by simpa [Nat.blt_eq]using hd
 refine⟨h.defers,by simp[Act.put,h.size],fun t u ht=> ?_⟩
 simp only[lk]at ht
 by_cases e:t=d
 ·subst e
  simp at ht
  subst ht
  simp[Act.put,h.size,hd']
 ·rw[nX e]at ht
  simp only[cond_false]at ht
  simp only[Act.put]
  rw[Array.getElem?_setIfInBounds_ne (Ne.symm e)]
  exact h.slot t u ht
def BY (σ σ':Fr):Prop:=∀t v,lk σ' t=some v->lk σ t=some v
theorem BY.nil {σ:Fr}:BY σ []:=fun _ _ h=>by simp[lk]at h
theorem BY.refl (σ:Fr):BY σ σ:=fun _ _ h=>h
theorem BY.cons {σ σ':Fr} {t:Nat} {v:Value} (h:lk σ t=some v) (r:BY σ σ'):BY σ ((t,v)::σ'):=by
 intro u x hx
 simp only[lk]at hx
 by_cases e:u=t
 ·subst e;simp at hx;subst hx;exact h
 ·rw[nX e]at hx;exact r u x hx
theorem GG.weak {n:Sz} {σ σ':Fr} {a:Act} (h:GG n σ a) (hs:BY σ σ'):GG n σ' a:=
 ⟨h.defers,h.size,fun t v hv=>h.slot t v (hs t v hv)⟩
theorem SF {σ σ':Fr} (h:BY σ σ':=by repeat (first|exact BY.nil|refine BY.cons rfl ?_)):BY σ σ':=h
structure bX where
 p:World->(Nat->Prop)->Prop
 mono:∀{w w':World} {S S':Nat->Prop},p w S->(∀k,S k->k<w.heap.size->S' k∧w'.heap[k]? = w.heap[k]?)->p w' S'
structure Ax where
 w0:World
 S0:Nat->Prop
 O:Nat->Prop:=fun _=>False
def Ax.mine (c:Ax) (k:Nat):Prop:=c.w0.heap.size<=k∨c.O k
def Ax.all (c:Ax) (k:Nat):Prop:=c.S0 k∨c.mine k
abbrev Ml (w w':World):Prop:=Below w.heap.size w w'
structure Dh (O:Nat->Prop) (w w':World):Prop where
 os:w'.os=w.os
 tape:w'.tape=w.tape
 output:w'.output=w.output
 size:w.heap.size<=w'.heap.size
 block:∀k,k<w.heap.size->¬O k->w'.heap[k]? = w.heap[k]?
theorem Dh.refl {O:Nat->Prop} (w:World):Dh O w w:=⟨rfl,rfl,rfl,Nat.le_refl _,fun _ _ _=>rfl⟩
theorem Dh.trans {O:Nat->Prop} {a b c:World} (h:Dh O a b) (k:Ml b c):Dh O a c:=
 ⟨k.os.trans h.os,k.tape.trans h.tape,k.output.trans h.output,Nat.le_trans h.size k.size,fun i hi ho=>(k.block i (Nat.lt_of_lt_of_le hi h.size)).trans (h.block i hi ho)⟩
theorem Dh.ext {w w':World} (h:Dh (fun _=>False) w w'):Ml w w':=⟨h.os,h.tape,h.output,h.size,fun k hk=>h.block k hk id⟩
structure Wh (c:Ax) (w:World) (M:List bX) (F:Nat->Nat->Prop):Prop where
 res:∀(i:Nat) (m:bX),M[i]? = some m->m.p w (F i)
 rng:∀i k,F i k->c.mine k∧k<w.heap.size
 dis:∀i j k,F i k->F j k->i=j
def BS (c:Ax) (F:Nat->Nat->Prop) (k:Nat):Prop:=c.all k∧∀i,¬F i k
structure St (c:Ax) (M L:List bX) (w:World):Prop where
 old:Dh c.O c.w0 w
 own:∃F:Nat->Nat->Prop,Wh c w M F∧∀f∈L,f.p w (BS c F)
theorem bX.same {f:bX} {w w':World} {S S':Nat->Prop} (h:f.p w S) (hS:∀k,S k->S' k) (e:∀k,S k->k<w.heap.size->w'.heap[k]? = w.heap[k]?):f.p w' S':=
 f.mono h fun k hk hl=>⟨hS k hk,e k hk hl⟩
theorem St.ext {c:Ax} {M L:List bX} {w w':World} (h:St c M L w) (e:Ml w w'):St c M L w':=by
 obtain⟨ho,F,hF,hL⟩:=h
 refine⟨ho.trans e,F,⟨fun i m hm=>bX.same (hF.res i m hm) (fun _ h=>h) (fun k _ hl=>e.block k hl),fun i k hk=>⟨(hF.rng i k hk).1,Nat.lt_of_lt_of_le (hF.rng i k hk).2 e.size⟩,hF.dis⟩,
  fun f hf=>bX.same (hL f hf) (fun _ h=>h) (fun k _ hl=>e.block k hl)⟩
def bH (M M':List bX):Prop:=∃g:Nat->Nat,(∀i j,i<M'.length->j<M'.length->g i=g j->i=j)∧∀(i:Nat) (m:bX),M'[i]? = some m->M[g i]? = some m
theorem bH.refl (M:List bX):bH M M:=⟨id,fun _ _ _ _ h=>h,fun _ _ h=>h⟩
theorem bH.nil {M:List bX}:bH M []:=⟨id,fun _ _ h=>by simp at h,fun _ _ h=>by simp at h⟩
theorem bH.cons {M M':List bX} (i:Nat) {m:bX} (h:M[i]? = some m) (r:bH (M.eraseIdx i) M'):bH M (m::M'):=by
 obtain⟨g,hg,hm⟩:=r
 let g':Nat->Nat:=fun j=>match j with|0=>i|j+1=>if g j<i then g j else g j+1
 have hi:i<M.length:=by
  rcases Nat.lt_or_ge i M.length with h'|h'
  ·exact h'
  ·rw[List.getElem?_eq_none h']at h;cases h
 refine⟨g',?_,?_⟩
 ·intro a b ha hb hab
  cases a with
  |zero=>
   cases b with
   |zero=>rfl
   |succ b=>simp only[g']at hab;split at hab<;>omega
  | succ a =>
   cases b with
   |zero=>simp only[g']at hab;split at hab<;>omega
   |succ b=>
    simp only[List.length_cons]at ha hb
    have:g a=g b:=by simp only[g']at hab;split at hab<;>split at hab<;>omega
    have:=hg a b (by omega) (by omega) this
    omega
 ·intro j m' hj
  cases j with
  |zero=>simp at hj;subst hj;exact h
  |succ j=>
   simp only[List.getElem?_cons_succ]at hj
   have:=hm j m' hj
   rw[List.getElem?_eraseIdx]at this
   simp only[g']
   split
   ·rename_i hlt;rwa[if_pos hlt]at this
   ·rename_i hlt;rwa[if_neg hlt]at this
theorem St.weak {c:Ax} {M L M' L':List bX} {w:World} (h:St c M L w) (hM:bH M M') (hL:∀f∈L',f∈L):St c M' L' w:=by
 obtain⟨ho,F,hF,hf⟩:=h
 obtain⟨g,hg,hm⟩:=hM
 refine⟨ho,fun i k=>i<M'.length∧F (g i) k,⟨fun i m hi=> ?_,fun i k hk=>hF.rng _ k hk.2,fun i j k hi hj=>hg i j hi.1 hj.1 (hF.dis _ _ k hi.2 hj.2)⟩,fun f hfl=> ?_⟩
 ·have hlt:i<M'.length:=by
   rcases Nat.lt_or_ge i M'.length with h'|h'
   ·exact h'
   ·rw[List.getElem?_eq_none h']at hi;cases hi
  exact bX.same (hF.res _ m (hm i m hi)) (fun k hk=>⟨hlt,hk⟩) (fun _ _ _=>rfl)
 ·exact bX.same (hf f (hL f hfl)) (fun k hk=>⟨hk.1,fun i hi=>hk.2 _ hi.2⟩) (fun _ _ _=>rfl)
def j_ (L L':List bX):Prop:=∀f∈L',f∈L
theorem j_.nil {L:List bX}:j_ L []:=fun _ h=>by simp at h
theorem j_.cons {L L':List bX} {f:bX} (h:f∈L) (r:j_ L L'):j_ L (f::L'):=fun g hg=>by
 rcases List.mem_cons.1 hg with rfl|hg
 ·exact h
 ·exact r g hg
def J (c:Ax) (n:Sz) (σ:Fr) (M L:List bX) (G:Act->World->Prop):Prop:=∀a w,GG n σ a->St c M L w->G a w
section rules
variable {P:Program} {rd:Option Nat} {c:Ax} {n:Sz} {σ σ':Fr} {M M' L L':List bX} {G G':Act->World->Prop} {Q:Exit->Act->World->Prop}
theorem Uw (h:J c n σ M L G) (g:∀a w,G a w->G' a w):J c n σ M L G':=fun a w s t=>g a w (h a w s t)
theorem aP {x y:Code} (h:J c n σ M L (x.wpr rd P (Exit.then (y.wpr rd P Q) Q))):J c n σ M L ((Code.seq x y).wpr rd P Q):=fun a w s t=>ON (h a w s t)
theorem aY {id:Nat} {x:Code} (h:J c n σ M L (x.wpr rd P (Exit.inBlock id Q))):J c n σ M L ((Code.block id x).wpr rd P Q):=fun a w s t=>JD (h a w s t)
theorem eJ (h:J c n σ M L (Q .normal)):J c n σ M L (Code.skip.wpr rd P Q):=fun a w s t=>Mk (h a w s t)
theorem Cp {id:Nat} (h:J c n σ M L (Q (.exit id))):J c n σ M L ((Code.exit id).wpr rd P Q):=fun a w s t=>Mi (h a w s t)
theorem bE (h:J c n σ M L (Q .ret)):J c n σ M L (Code.ret.wpr rd P Q):=fun a w s t=>OM (h a w s t)
theorem JI {x:Operand} {th el:Code} {b:Bool} (hx:ev σ x=some (.bool b)) (ht:b=true->J c n σ M L (th.wpr rd P Q)) (hf:b=false->J c n σ M L (el.wpr rd P Q)):
  J c n σ M L ((Code.cond x th el).wpr rd P Q):=fun a w s t=>DW (s.eval hx) (fun h=>ht h a w s t) (fun h=>hf h a w s t)
theorem NI {x:Operand} {th el:Code} (hx:ev σ x=some (.bool true)) (h:J c n σ M L (th.wpr rd P Q)):J c n σ M L ((Code.cond x th el).wpr rd P Q):=JI hx (fun _=>h) (fun h=>by cases h)
theorem NH {x:Operand} {th el:Code} (hx:ev σ x=some (.bool false)) (h:J c n σ M L (el.wpr rd P Q)):J c n σ M L ((Code.cond x th el).wpr rd P Q):=JI hx (fun h=>by cases h) (fun _=>h)
theorem aS {id:Nat} {l:List Oper} (h:J c n σ M L (wpList P l.toArray Q l)) (hd:l.all iS=true:=by rfl):J c n σ M L ((Code.region id l.toArray false).wpr rd P Q):=fun a w s t=>uC hd (h a w s t)
theorem fQ {ops:Array Oper} (h:J c n σ M L (Q .normal)):J c n σ M L (wpList P ops Q []):=h
variable {K:Act->World->Prop}
theorem SG (h:J c n σ M L K):J c n σ M L (Exit.then K Q .normal):=h
theorem nO {id:Nat} (h:J c n σ M L (Q (.exit id))):J c n σ M L (Exit.then K Q (.exit id)):=h
theorem aR (h:J c n σ M L (Q .ret)):J c n σ M L (Exit.then K Q .ret):=h
theorem aao {id:Nat} (h:J c n σ M L (Q .normal)):J c n σ M L (Exit.inBlock id Q .normal):=h
theorem cG {id:Nat} (h:J c n σ M L (Q .ret)):J c n σ M L (Exit.inBlock id Q .ret):=h
theorem Fb {id:Nat} (h:J c n σ M L (Q .normal)):J c n σ M L (Exit.inBlock id Q (.exit id)):=fun a w s t=>by
 simp only[Exit.inBlock,if_true];exact h a w s t
def Inv {X:Type} (c:Ax) (n:Sz) (C:X->Prop) (σI:X->Fr) (MI LI:X->List bX) (μ:X->Nat) (m:Nat) (a:Act) (w:World):Prop:=
 ∃x,C x∧μ x<m∧GG n (σI x) a∧St c (MI x) (LI x) w
theorem Uv {X:Type} {body:Code} (C:X->Prop) (σI:X->Fr) (MI LI:X->List bX) (μ:X->Nat) (x0:X) (h0:C x0)
  (hs:BY σ (σI x0)) (hM:bH M (MI x0)) (hL:∀f∈LI x0,f∈L)
  (round:∀x,C x->J c n (σI x) (MI x) (LI x) (body.wpr rd P (Exit.then (Inv c n C σI MI LI μ (μ x)) Q))):J c n σ M L ((Code.loop body).wpr rd P Q):=by
 intro a w s t b k cs hro hb hr
 have key:∀m x a w,μ x=m->C x->GG n (σI x) a->St c (MI x) (LI x) w->
   ∃e a' w',Q e a' w'∧ArrivesIn (Machine.fenced P (FR rd)) P (lone (b.atR a (.code body :: .inLoop body::k)) cs w) b k cs e a' w':=by
  intro m
  induction m using Nat.strongRecOn with
  | _ m ih =>
   intro x a w hm hC hs ht
   obtain⟨e,a₁,w₁,hq,harr⟩:=round x hC a w hs ht b (.inLoop body::k) cs hro hb hr
   cases e with
   |normal=>
    obtain⟨y,hCy,hlt,hsy,hty⟩:=hq
    obtain⟨e₂,a₂,w₂,hq₂,harr₂⟩:=ih (μ y) (hm▸hlt) y a₁ w₁ rfl hCy hsy hty
    exact⟨e₂,a₂,w₂,hq₂,.of_steps (StepsIn.trans harr (.one (fenced_calm hb hr rfl) stepR_inLoop)) harr₂⟩
   |exit id=>exact⟨_,a₁,w₁,hq,.pass (x:= .inLoop body) rfl (fun _ _=> .inl (by simp)) harr⟩
   |goto l=>exact⟨_,a₁,w₁,hq,.pass (x:= .inLoop body) rfl (fun _ _=> .inl (by simp)) harr⟩
   |ret=>exact⟨_,a₁,w₁,hq,.pass (x:= .inLoop body) rfl (fun _ _=> .inl (by simp)) harr⟩
   |panic ch=>exact⟨_,a₁,w₁,hq,.pass (x:= .inLoop body) rfl (fun _ _=> .inl (by simp)) harr⟩
   |outgrown=>exact⟨_,a₁,w₁,hq,.pass (x:= .inLoop body) rfl (fun _ _=> .inl (by simp)) harr⟩
 obtain⟨e,a',w',hq,harr⟩:=key _ x0 a w rfl h0 (s.weak hs) (t.weak hM hL)
 exact⟨e,a',w',hq,.of_steps (.one (fenced_calm hb hr rfl) stepR_loop) harr⟩
def Y (P:Program) (c:Ax) (n:Sz) (σ:Fr) (M L:List bX) (o:Oper) (v:Value):Prop:=
 ∀a w,GG n σ a->St c M L w->(execOp a.eval o).run P w = .ok (.value v) w
theorem mO {ops:Array Oper} {rest:List Oper} {o:Oper} {a:Act} {w:World} (hw:Region.wanted o (yielded ops a.tmps)=true)
  (h:o.wp P a w (wpList P ops Q rest) Q):wpList P ops Q (o::rest) a w:=by
 unfold wpList;rw[if_pos hw];exact .inl h
theorem aJ {ops:Array Oper} {rest:List Oper} {d:Nat} {op:Op} {ty:TypeId} {pos:String} {aft:Array Edge} {v:Value}
  (hy:Y P c n σ M L ⟨some d,op,ty,pos,aft,none⟩ v) (hd:Nat.blt d n.sz=true) (h:J c n ((d,v)::σ) M L (wpList P ops Q rest)):
  J c n σ M L (wpList P ops Q (⟨some d,op,ty,pos,aft,none⟩::rest)):=fun a w s t=>
 mO rfl (by simp only[Oper.wp,hy a w s t,Oper.upon];exact h _ w (s.put d v hd) t)
def gv (ops:Array Oper) (σ:Fr) (j:Nat):Option Bool:=
 match ((ops[j]?).bind (·.dst)).bind (lk σ)with
 |some (.bool b)=>some b
 |_=>none
theorem Be {ops:Array Oper} {j:Nat} {b:Bool} {a:Act} (s:GG n σ a) (h:gv ops σ j=some b):yielded ops a.tmps j=some b:=by
 unfold gv at h
 unfold yielded
 cases hd:(ops[j]?).bind (·.dst)with
 |none=>simp[hd]at h
 | some d =>
  simp only[hd,Option.bind_some]at h ⊢
  cases hl:lk σ d with
  |none=>simp[hl]at h
  |some v=>
   rw[s.slot d v hl]
   rw[hl]at h
   cases v<;>first|exact h|cases h
theorem aL {ops:Array Oper} {rest:List Oper} {d:Nat} {op:Op} {ty:TypeId} {pos:String} {aft:Array Edge} {j:Nat} {b:Bool} {v:Value}
  (hg:gv ops σ j=some b) (hy:Y P c n σ M L ⟨some d,op,ty,pos,aft,some (j,b)⟩ v) (hd:Nat.blt d n.sz=true) (h:J c n ((d,v)::σ) M L (wpList P ops Q rest)):
  J c n σ M L (wpList P ops Q (⟨some d,op,ty,pos,aft,some (j,b)⟩::rest)):=fun a w s t=>
 mO (by simp[Region.wanted,Be s hg]) (by simp only[Oper.wp,hy a w s t,Oper.upon];exact h _ w (s.put d v hd) t)
theorem Qa {ops:Array Oper} {rest:List Oper} {d:Nat} {op:Op} {ty:TypeId} {pos:String} {aft:Array Edge} {j:Nat} {b b':Bool}
  (hg:gv ops σ j=some b') (hb:(b'==b)=false) (hd:Nat.blt d n.sz=true) (h:J c n ((d,undef)::σ) M L (wpList P ops Q rest)):
  J c n σ M L (wpList P ops Q (⟨some d,op,ty,pos,aft,some (j,b)⟩::rest)):=fun a w s t=>by
 unfold wpList
 rw[if_neg (by simp[Region.wanted,Be s hg,hb])]
 exact h _ w (s.put d undef hd) t
theorem GG.over {n:Sz} {σ:Fr} {a:Act} (h:GG n σ a) {d:Nat} {v:Value} (hv:a.tmps[d]? = some v):GG n ((d,v)::σ) a:=
 ⟨h.defers,h.size,fun t u ht=>by
  simp only[lk]at ht
  by_cases e:t=d
  ·subst e;simp at ht;subst ht;exact hv
  ·rw[nX e]at ht;exact h.slot t u ht⟩
theorem fY {ops:Array Oper} {rest:List Oper} {d:Option Tmp} {op:Op} {ty:TypeId} {pos:String} {aft:Array Edge} {j dj:Nat} {b' b:Bool}
  (_:(ops[j]?).bind (·.dst)=some dj) (hg:lk σ dj=some (.bool b')) (ht:b'=true->J c n ((dj,.bool true)::σ) M L (wpList P ops Q (⟨d,op,ty,pos,aft,some (j,b)⟩::rest)))
  (hf:b'=false->J c n ((dj,.bool false)::σ) M L (wpList P ops Q (⟨d,op,ty,pos,aft,some (j,b)⟩::rest))):
  J c n σ M L (wpList P ops Q (⟨d,op,ty,pos,aft,some (j,b)⟩::rest)):=by
 cases b'
 ·exact fun a w s t=>hf rfl a w (s.over (s.slot _ _ hg)) t
 ·exact fun a w s t=>ht rfl a w (s.over (s.slot _ _ hg)) t
theorem P_ {ops:Array Oper} {rest:List Oper} {d:Option Tmp} {op:Op} {ty:TypeId} {pos:String} {aft:Array Edge} {j dj:Nat} {p:Prop} {_:Decidable p} {b:Bool}
  (hd:(ops[j]?).bind (·.dst)=some dj) (hg:lk σ dj=some (.bool (decide p))) (ht:p->J c n ((dj,.bool true)::σ) M L (wpList P ops Q (⟨d,op,ty,pos,aft,some (j,b)⟩::rest)))
  (hf:¬p->J c n ((dj,.bool false)::σ) M L (wpList P ops Q (⟨d,op,ty,pos,aft,some (j,b)⟩::rest))):
  J c n σ M L (wpList P ops Q (⟨d,op,ty,pos,aft,some (j,b)⟩::rest)):=
 fY hd hg (fun h=>ht (of_decide_eq_true h)) (fun h=>hf (of_decide_eq_false h))
theorem SE {x:Operand} {th el:Code} {p:Prop} {_:Decidable p} (hx:ev σ x=some (.bool (decide p))) (ht:p->J c n σ M L (th.wpr rd P Q)) (hf:¬p->J c n σ M L (el.wpr rd P Q)):
  J c n σ M L ((Code.cond x th el).wpr rd P Q):=JI hx (fun h=>ht (of_decide_eq_true h)) (fun h=>hf (of_decide_eq_false h))
end rules
end
section
structure Ty where
 desc:TypeDesc
 size:Nat
 bytes:Nat
 zero:Value
structure sT (P:Program) (T:Nat) (d:Ty):Prop where
 und:P.underlying T=some d.desc
 info:∃i,P.info? T=some i∧i.size=d.size∧i.bytes=d.bytes∧i.zero=some d.zero
class eM (P:Program) where
 tab:Nat->Option Ty
 ok:∀{T d},tab T=some d->sT P T d
section
variable {P:Program} {T:Nat} {d:Ty} (w:World)
theorem sT.run_und (h:sT P T d):(underlying T).run P w = .ok d.desc w:=run_underlying h.und w
theorem sT.run_size (h:sT P T d):(sizeOf T).run P w = .ok d.size w:=by
 obtain⟨i,hi,hs,_,_⟩:=h.info
 simp[sizeOf,typeInfo,hi,hs]
theorem sT.run_zero (h:sT P T d):(zeroValue T).run P w = .ok d.zero w:=by
 obtain⟨i,hi,_,_,hz⟩:=h.info
 simp[zeroValue,typeInfo,hi,hz]
def Bb:TypeDesc->Bool
 | .struct _ | .array _ _=>true
 |_=>false
theorem sT.run_agg (h:sT P T d):(isAgg T).run P w = .ok (Bb d.desc) w:=by
 simp only[isAgg]
 simp[h.run_und w]
 cases d.desc<;>rfl
end
section
variable {P:Program} {rd:Option Nat} {c:Ax} {n:Sz} {σ:Fr} {M L:List bX}
variable {d:Option Tmp} {ty:TypeId} {pos:String} {aft:Array Edge} {g:Option (Nat×Bool)}
theorem xF {x:Operand} {v:Value} (hx:ev σ x=some v):Y P c n σ M L ⟨d,.move x,ty,pos,aft,g⟩ v:=fun a w s _=>by
 simp[execOp,s.eval hx]
theorem Fi {x:Operand} {v:Value} (hx:ev σ x=some v):Y P c n σ M L ⟨d,.assign x,ty,pos,aft,g⟩ v:=fun a w s _=>by
 simp[execOp,s.eval hx]
theorem Cu {x y z:Operand} {v:Value} (hx:ev σ x=some (.bool true)) (hy:ev σ y=some v):Y P c n σ M L ⟨d,.pick x y z,ty,pos,aft,g⟩ v:=fun a w s _=>by
 simp[execOp,s.eval hx,s.eval hy,asBool]
theorem Ct {x y z:Operand} {v:Value} (hx:ev σ x=some (.bool false)) (hy:ev σ z=some v):Y P c n σ M L ⟨d,.pick x y z,ty,pos,aft,g⟩ v:=fun a w s _=>by
 simp[execOp,s.eval hx,s.eval hy,asBool]
theorem JE {x:Int} (h1 : -9223372036854775808<=x) (h2:x<=9223372036854775807):IntKind.i64.wrap x=x:=by
 unfold IntKind.wrap
 simp only[IntKind.bits,IntKind.signed]
 simp
 omega
theorem sD {op:BinOp} {t:TypeId} {x y:Operand} {k k':IntKind} {p q:Int} (w:World):(eqGuard op t x y (.int k p) (.int k' q)).run P w = .ok () w:=by
 unfold eqGuard
 cases op<;>simp
theorem NL {t t':TypeId} {x y:Operand} {k:IntKind} {p q:Int} (hx:ev σ x=some (.int k p)) (hy:ev σ y=some (.int k q)):
  Y P c n σ M L ⟨d,.binOp .lss t x y t',ty,pos,aft,g⟩ (.bool (decide (p<q))):=fun a w s _=>by
 simp[execOp,s.eval hx,s.eval hy,binOp,Op.intCmp,sD]
theorem sO {t t':TypeId} {x y:Operand} {k:IntKind} {p q:Int} (hx:ev σ x=some (.int k p)) (hy:ev σ y=some (.int k q)):
  Y P c n σ M L ⟨d,.binOp .leq t x y t',ty,pos,aft,g⟩ (.bool (decide (p<=q))):=fun a w s _=>by
 simp[execOp,s.eval hx,s.eval hy,binOp,Op.intCmp,sD]
theorem kT {t t':TypeId} {x y:Operand} {k:IntKind} {p q:Int} (hx:ev σ x=some (.int k p)) (hy:ev σ y=some (.int k q)):
  Y P c n σ M L ⟨d,.binOp .gtr t x y t',ty,pos,aft,g⟩ (.bool (decide (q<p))):=fun a w s _=>by
 simp[execOp,s.eval hx,s.eval hy,binOp,Op.intCmp,sD]
theorem jM {t t':TypeId} {x y:Operand} {k:IntKind} {p q:Int} (hx:ev σ x=some (.int k p)) (hy:ev σ y=some (.int k q)):
  Y P c n σ M L ⟨d,.binOp .geq t x y t',ty,pos,aft,g⟩ (.bool (decide (q<=p))):=fun a w s _=>by
 simp[execOp,s.eval hx,s.eval hy,binOp,Op.intCmp,sD]
theorem mU {t t':TypeId} {x y:Operand} {k:IntKind} {p q:Int} (hx:ev σ x=some (.int k p)) (hy:ev σ y=some (.int k q)):
  Y P c n σ M L ⟨d,.binOp .eql t x y t',ty,pos,aft,g⟩ (.bool (decide (p=q))):=fun a w s _=>by
 simp[execOp,s.eval hx,s.eval hy,binOp,Op.intCmp,sD]
 by_cases h:p=q<;>simp[h]
theorem CW {t t':TypeId} {x y:Operand} {k:IntKind} {p q:Int} (hx:ev σ x=some (.int k p)) (hy:ev σ y=some (.int k q)):
  Y P c n σ M L ⟨d,.binOp .neq t x y t',ty,pos,aft,g⟩ (.bool (decide (p≠q))):=fun a w s _=>by
 simp[execOp,s.eval hx,s.eval hy,binOp,Op.intCmp,sD]
 by_cases h:p=q<;>simp[h]
theorem fR {t:TypeId} {x:Operand} {b:Bool} (hx:ev σ x=some (.bool b)):Y P c n σ M L ⟨d,.unOp .not t x,ty,pos,aft,g⟩ (.bool (!b)):=fun a w s _=>by
 simp[execOp,s.eval hx,Op.unary]
theorem OV {x:Operand} {vs:List Value} {i:Nat} {v:Value} (hx:ev σ x=some (.tuple vs.toArray)) (hv:vs[i]? = some v):Y P c n σ M L ⟨d,.extract x i,ty,pos,aft,g⟩ v:=fun a w s _=>by
 simp[execOp,s.eval hx,Instr.extract,hv]
theorem Ql {t t':TypeId} {x y:Operand} {k:IntKind} {p q:Int} (hx:ev σ x=some (.int k p)) (hy:ev σ y=some (.int k q)):
  Y P c n σ M L ⟨d,.call ⟨.builtin .max,#[x,y],#[t,t']⟩,ty,pos,aft,g⟩ (.int k (max p q)):=fun a w s _=>by
 simp[execOp,resolve,invoke,builtin,s.eval hx,s.eval hy,Builtin.max_,Builtin.max2]
 split<;>omega
theorem Ba {fn:Fn} {cs:List Operand} {vs:List Value} (hc:cs.map (ev σ)=vs.map some):Y P c n σ M L ⟨d,.makeFunc fn #[] cs.toArray,ty,pos,aft,g⟩ (.func fn #[] vs.toArray):=fun a w s _=>by
 have:cs.map a.eval=vs:=by
  induction cs generalizing vs with
  |nil=>cases vs<;>simp_all
  |cons x cs ih=>
   cases vs with
   |nil=>simp at hc
   |cons v vs=>simp at hc;simp[s.eval hc.1,ih hc.2]
 simp[execOp,Instr.makeFunc,this]
end
end
section
def at' {α:Type} [Inhabited α] (xs:List α) (i:Int):α:=xs.getD i.toNat default
theorem pT {α:Type} [Inhabited α] {xs:List α} {i:Int} (h0:0<=i) (h:i<xs.length):xs[i.toNat]? = some (at' xs i):=by
 unfold at'
 rw[List.getD_eq_getElem?_getD,List.getElem?_eq_getElem (by omega)]
 rfl
theorem SK {α:Type} [Inhabited α] (xs:List α) (i:Nat):at' xs (i:Int)=xs.getD i default:=by simp[at']
def IF (v:Value) (o:Nat):Addr:=match v with
 | .slice (some a) _ _=>a.add o
 |_=>⟨0,o,none⟩
def HN (v:Value) (o:Nat):Value:= .pointer (some (IF v o))
theorem JF (a:Addr) (o p:Nat):(a.add o).add p=a.add (o+p):=by
 unfold Addr.add
 by_cases h1:o=0<;>by_cases h2:p=0<;>simp[h1,h2,Nat.add_assoc]
theorem Kf (v:Value) (o p:Nat):(IF v o).add p=IF v (o+p):=by
 unfold IF
 split
 ·exact JF _ _ _
 ·unfold Addr.add;split<;>simp_all
theorem fM (b off o:Nat):(⟨b,off,none⟩:Addr).add o=⟨b,off+o,none⟩:=by
 unfold Addr.add;split<;>simp_all
def bJ (b:Nat) (cs:List Value) (T:TypeId):bX where
 p w F:=F b∧w.heap[b]? = some (.cells cs.toArray T (0,0))
 mono:=fun⟨h1,h2⟩ h=>by
  obtain⟨h3,h4⟩:=h b h1 (Array.getElem?_eq_some_iff.1 h2).1
  exact⟨h3,by rw[h4];exact h2⟩
theorem bJ.cell {b:Nat} {cs:List Value} {T:TypeId} {w:World} {F:Nat->Prop} (h:(bJ b cs T).p w F) {o:Nat} {v:Value} (hv:cs[o]? = some v):w.cell? ⟨b,o,none⟩=some v:=by
 simp[World.cell?,h.2,hv]
theorem PW {b:Nat} {cs:List Value} {T:TypeId} {w:World} {F:Nat->Prop} (h:(bJ b cs T).p w F) (o:Nat):w.frozen? ⟨b,o,none⟩=false:=by
 simp[World.frozen?,h.2]
theorem St.res {c:Ax} {M L:List bX} {w:World} (t:St c M L w) {i:Nat} {m:bX} (h:M[i]? = some m):∃F,m.p w F:=by
 obtain⟨_,F,hF,_⟩:=t
 exact⟨_,hF.res i m h⟩
structure kJ (α:Type) where
 sz:Nat
 pos:0<sz
 R:World->(Nat->Prop)->List Value->α->Prop
 len:∀{w S cs x},R w S cs x->cs.length=sz
 mono:∀{w w':World} {S S':Nat->Prop} {cs x},R w S cs x->(∀k,S k->k<w.heap.size->S' k∧w'.heap[k]? = w.heap[k]?)->R w' S' cs x
def El {α:Type} (r:kJ α) (w:World) (S:Nat->Prop) (v:Value) (xs:List α):Prop:=
 ∃a cap,v = .slice a xs.length cap∧(xs.length<=9223372036854775807∧xs.length<=cap)∧(xs=[]∨∃b off,a=some ⟨b,off,none⟩∧S b∧
  ∀i x,xs[i]? = some x->∃es,(∀j e,es[j]? = some e->w.cell? ⟨b,off+(i*r.sz+j),none⟩=some e)∧r.R w S es x)
theorem OZ {w w':World} {b o:Nat} {e:Value} (h:w.cell? ⟨b,o,none⟩=some e) (hs:w'.heap[b]? = w.heap[b]?):w'.cell? ⟨b,o,none⟩=some e:=by
 rw[<-h];exact World.cell?_of_block hs
theorem Nh {w:World} {b o:Nat} {e:Value} (h:w.cell? ⟨b,o,none⟩=some e):b<w.heap.size:=World.block_lt_of_cell? w _ h
theorem El.mono {α:Type} {r:kJ α} {w w':World} {S S':Nat->Prop} {v:Value} {xs:List α} (h:El r w S v xs)
  (e:∀k,S k->k<w.heap.size->S' k∧w'.heap[k]? = w.heap[k]?):El r w' S' v xs:=by
 obtain⟨a,cap,hv,hb,h⟩:=h
 refine⟨a,cap,hv,hb,?_⟩
 rcases h with h|⟨b,off,ha,hS,h⟩
 ·exact .inl h
 ·cases xs with
  |nil=>exact .inl rfl
  |cons x0 xs=>
   obtain⟨es,hes,hr⟩:=h 0 x0 rfl
   have hl:=r.len hr
   have hsz:=r.pos
   have h0:es[0]? = some (es[0]'(by omega)):=List.getElem?_eq_getElem _
   have hlt:=Nh (hes 0 _ h0)
   obtain⟨hS',hw⟩:=e b hS hlt
   refine .inr ⟨b,off,ha,hS',fun i x hx=> ?_⟩
   obtain⟨es,hes,hr⟩:=h i x hx
   exact⟨es,fun j u hu=>OZ (hes j u hu) hw,r.mono hr e⟩
def Sl {α:Type} (r:kJ α) (v:Value) (xs:List α):bX where
 p w S:=El r w S v xs
 mono:=fun h e=>h.mono e
def kJ.int (k:IntKind):kJ Int where
 sz:=1
 pos:=Nat.one_pos
 R _ _ cs x:=cs=[.int k x]
 len h:=by simp[h]
 mono h _:=h
def kJ.bool:kJ Bool where
 sz:=1
 pos:=Nat.one_pos
 R _ _ cs x:=cs=[.bool x]
 len h:=by simp[h]
 mono h _:=h
def kJ.sl {α:Type} (r:kJ α):kJ (Value×List α) where
 sz:=1
 pos:=Nat.one_pos
 R w S cs x:=cs=[x.1]∧El r w S x.1 x.2
 len h:=by simp[h.1]
 mono h e:=⟨h.1,h.2.mono e⟩
def kJ.pair {α β:Type} (r:kJ α) (s:kJ β):kJ (α×β) where
 sz:=r.sz+s.sz
 pos:=Nat.lt_of_lt_of_le r.pos (Nat.le_add_right _ _)
 R w S cs x:=∃c1 c2,cs=c1++c2∧r.R w S c1 x.1∧s.R w S c2 x.2
 len h:=by obtain⟨c1,c2,hc,h1,h2⟩:=h;simp[hc,r.len h1,s.len h2]
 mono h e:=by obtain⟨c1,c2,hc,h1,h2⟩:=h;exact⟨c1,c2,hc,r.mono h1 e,s.mono h2 e⟩
def kJ.Cell {α:Type} (r:kJ α) (j:Nat) (f:α->Value):Prop:=∀{w S es x},r.R w S es x->es[j]? = some (f x)
theorem JL (k:IntKind):(kJ.int k).Cell 0 (fun x=> .int k x):=fun h=>by simp[show _=[_]from h]
theorem kJ.sl_cell {α:Type} (r:kJ α):(kJ.sl r).Cell 0 (fun x=>x.1):=fun h=>by simp[h.1]
theorem sX {α β:Type} {r:kJ α} {s:kJ β} {j:Nat} {f:α->Value} (h:r.Cell j f):(r.pair s).Cell j (fun x=>f x.1):=by
 rintro w S es x ⟨c1,c2,rfl,h1,_⟩
 have:=h h1
 rw[List.getElem?_append_left (by
  rcases Nat.lt_or_ge j c1.length with h'|h'
  ·exact h'
  ·rw[List.getElem?_eq_none h']at this;cases this)]
 exact this
theorem Dk {α β:Type} {r:kJ α} {s:kJ β} {j:Nat} {f:β->Value} (h:s.Cell j f):(r.pair s).Cell (r.sz+j) (fun x=>f x.2):=by
 rintro w S es x ⟨c1,c2,rfl,h1,h2⟩
 rw[List.getElem?_append_right (by rw[r.len h1];omega),r.len h1,Nat.add_sub_cancel_left]
 exact h h2
section
variable {P:Program} {rd:Option Nat} {c:Ax} {n:Sz} {σ:Fr} {M L:List bX}
variable {d:Option Tmp} {ty:TypeId} {pos:String} {aft:Array Edge} {g:Option (Nat×Bool)}
variable {α:Type} {r:kJ α}
theorem KD {T:TypeId} {dT:Ty} {E:TypeId} (w:World) (hT:sT P T dT) (hd:dT.desc = .slice E) (a:Option Addr) (k cap:Nat) (ty:TypeId):
  (Builtin.len_ #[T] ty #[.slice a k cap]).run P w = .ok (.int .i64 k) w:=by
 simp[Builtin.len_,hT.run_und w,hd,goInt]
theorem PD {T:TypeId} {E:TypeId} {dT dE:Ty} (w:World) (hT:sT P T dT) (hd:dT.desc = .slice E) (hE:sT P E dE) (b off k cap:Nat) (i:Int) (h0:0<=i) (h1:i<k):
  (Instr.indexAt T (.slice (some ⟨b,off,none⟩) k cap) (.int .i64 i)).run P w = .ok (HN (.slice (some ⟨b,off,none⟩) k cap) (i.toNat*dE.size)) w:=by
 simp[Instr.indexAt,asIntOf,hT.run_und w,hd,hE.run_size w,h0,h1,HN,IF]
theorem cW [eM P] {T:TypeId} {s1 s2 s3 s4:Nat} {z z':Value} {fs:Array Field} {nm tg pk:String} {em:Bool} {ft off bo:Nat} {dF:TypeDesc} {x:Operand} {v:Value} {o f:Nat} (hx:ev σ x=some (HN v o))
  (hT:eM.tab P T=some ⟨.struct fs,s1,s2,z⟩) (hf:fs[f]? = some ⟨nm,ft,off,em,tg,pk,bo⟩) (hF:eM.tab P ft=some ⟨dF,s3,s4,z'⟩) (h3:(s3==0)=false):
  Y P c n σ M L ⟨d,.fieldAddr T x f,ty,pos,aft,g⟩ (HN v (o+off)):=fun a w s t=>by
 have hne:s3≠0:=by simpa using h3
 simp[execOp,s.eval hx,Instr.fieldAt,(eM.ok hT).run_und w,hf,Instr.sureAddr,HN,fieldPlace,(eM.ok hF).run_size w,hne,Kf]
theorem Cg {T:TypeId} {dT:Ty} {w:World} (hT:sT P T dT) (hd:Bb dT.desc=false) {A:Addr} {e:Value} (h:w.cell? A=some e):
  (Instr.loadAt T (.pointer (some A))).run P w = .ok e w:=by
 simp[Instr.loadAt,Instr.sureAddr,loadVar,hT.run_agg w,hd,load,Sem.run,h]
theorem sl_cell {w:World} {S:Nat->Prop} {v:Value} {xs:List α} (h:El r w S v xs) {i:Nat} {x:α} (hx:xs[i]? = some x):
  ∃es,r.R w S es x∧∀j e,es[j]? = some e->w.cell? (IF v (i*r.sz+j))=some e:=by
 obtain⟨a',cap,hv,_,h⟩:=h
 rcases h with h|⟨b,off,rfl,_,h⟩
 ·subst h;simp at hx
 ·obtain⟨es,hes,hr⟩:=h i x hx
  refine⟨es,hr,fun j e he=> ?_⟩
  subst hv
  simp only[IF,fM]
  exact hes j e he
end
section
variable {P:Program} {rd:Option Nat} {c:Ax} {n:Sz} {σ:Fr} {M L:List bX} {Q:Exit->Act->World->Prop} {ops:Array Oper} {rest:List Oper}
variable {d:Option Tmp} {D:Nat} {ty:TypeId} {pos:String} {aft:Array Edge} {g:Option (Nat×Bool)}
theorem cF [eM P] {T:TypeId} {s1 s2 s3 s4:Nat} {z z':Value} {fs:Array Field} {nm tg pk:String} {em:Bool} {ft off bo:Nat} {dF:TypeDesc} {x:Operand} {b o f:Nat} (hx:ev σ x=some (.pointer (some ⟨b,o,none⟩)))
  (hT:eM.tab P T=some ⟨.struct fs,s1,s2,z⟩) (hf:fs[f]? = some ⟨nm,ft,off,em,tg,pk,bo⟩) (hF:eM.tab P ft=some ⟨dF,s3,s4,z'⟩) (h3:(s3==0)=false):
  Y P c n σ M L ⟨d,.fieldAddr T x f,ty,pos,aft,g⟩ (.pointer (some ⟨b,o+off,none⟩)):=fun a w s t=>by
 have hne:s3≠0:=by simpa using h3
 simp[execOp,s.eval hx,Instr.fieldAt,(eM.ok hT).run_und w,hf,Instr.sureAddr,fieldPlace,(eM.ok hF).run_size w,hne,fM]
theorem cT [eM P] (i:Nat) {T T':TypeId} {s1 s2:Nat} {z:Value} {dT:TypeDesc} {x:Operand} {b o:Nat} {cs:List Value} {v:Value} (hx:ev σ x=some (.pointer (some ⟨b,o,none⟩)))
  (hM:M[i]? = some (bJ b cs T')) (hT:eM.tab P T=some ⟨dT,s1,s2,z⟩) (hd:Bb dT=false) (hv:cs[o]? = some v):
  Y P c n σ M L ⟨d,.load T x,ty,pos,aft,g⟩ v:=fun a w s t=>by
 obtain⟨F,hF⟩:=t.res hM
 simp[execOp,s.eval hx,Cg (eM.ok hT) hd (bJ.cell hF hv)]
theorem AB {T:TypeId} {dT:Ty} {w:World} (hT:sT P T dT) (hd:Bb dT.desc=true) {A:Addr} {cs:List Value} (hl:cs.length=dT.size) (h:∀j v,cs[j]? = some v->w.cell? (A.add j)=some v):
  (Instr.loadAt T (.pointer (some A))).run P w = .ok (.agg cs.toArray) w:=by
 have:=run_loadCells_list (P:=P) w A cs h
 simp[Instr.loadAt,Instr.sureAddr,loadVar,hT.run_agg w,hd,hT.run_size w,<-hl,this]
theorem iD [eM P] (i:Nat) {T T':TypeId} {s2:Nat} {z:Value} {dT:TypeDesc} {x:Operand} {b:Nat} {cs:List Value} (hx:ev σ x=some (.pointer (some ⟨b,0,none⟩)))
  (hM:M[i]? = some (bJ b cs T')) (hT:eM.tab P T=some ⟨dT,cs.length,s2,z⟩) (hd:Bb dT=true):
  Y P c n σ M L ⟨d,.load T x,ty,pos,aft,g⟩ (.agg cs.toArray):=fun a w s t=>by
 obtain⟨F,hF⟩:=t.res hM
 have:=AB (w:=w) (A:=⟨b,0,none⟩) (cs:=cs) (eM.ok hT) hd rfl (fun j v hv=>by rw[fM,Nat.zero_add];exact bJ.cell hF hv)
 simp[execOp,s.eval hx,this]
theorem St.alloc {w:World} (t:St c M L w) (cs:List Value) (T:TypeId):St c (bJ w.heap.size cs T::M) L (w.alloc (.cells cs.toArray T)):=by
 have e:Ml w (w.alloc (.cells cs.toArray T)):=(Below.refl _ _).alloc (Nat.le_refl _) _
 obtain⟨ho,F,hF,hL⟩:=t
 have hb:∀k,k<w.heap.size->(w.alloc (.cells cs.toArray T)).heap[k]? = w.heap[k]? := e.block
 refine⟨ho.trans e,fun i k=>match i with|0=>k=w.heap.size|i+1=>F i k,⟨?_,?_,?_⟩,fun f hf=> ?_⟩
 ·intro i m hm
  cases i with
  |zero=>
   simp at hm;subst hm
   exact⟨rfl,heap_alloc_new w _⟩
  |succ i=>exact bX.same (hF.res i m (by simpa using hm)) (fun _ h=>h) (fun k _ hl=>hb k hl)
 ·intro i k hk
  cases i with
  |zero=>subst hk;exact⟨.inl ho.size,by simp⟩
  |succ i=>exact⟨(hF.rng i k hk).1,Nat.lt_of_lt_of_le (hF.rng i k hk).2 e.size⟩
 ·intro i j k hi hj
  cases i with
  |zero=>
   cases j with
   |zero=>rfl
   |succ j=>have:=(hF.rng j k hj).2;simp only at hi;omega
  |succ i=>
   cases j with
   |zero=>have:=(hF.rng i k hi).2;simp only at hj;omega
   |succ j=>exact congrArg (· + 1) (hF.dis i j k hi hj)
 ·exact f.mono (hL f hf) fun k hk hl=>⟨⟨hk.1,fun i hi=>by
   cases i with
   |zero=>simp only at hi;omega
   |succ i=>exact hk.2 i hi⟩,hb k hl⟩
theorem Gt {T:TypeId} {dT:Ty} (w:World) (hT:sT P T dT):(Instr.alloc T true (.tuple #[])).run P w = .ok (.pointer (some ⟨w.heap.size,0,none⟩)) (w.alloc (.cells dT.zero.cells T)):=by
 simp[Instr.alloc,hT.run_zero w,newVar,newRow]
theorem Fg {w w':World} {F:Nat->Nat->Prop} (ho:Dh c.O c.w0 w) (hF:Wh c w M F) (hL:∀f∈L,f.p w (BS c F)) {i:Nat} {m m':bX} (hi:M[i]? = some m) (hos:w'.os=w.os) (htp:w'.tape=w.tape) (hout:w'.output=w.output) (hsz:w.heap.size<=w'.heap.size)
  (hb:∀k,k<w.heap.size->¬F i k->w'.heap[k]? = w.heap[k]?) {F':Nat->Prop} (hF':m'.p w' F') (hsub:∀k,F' k->F i k∨(w.heap.size<=k∧k<w'.heap.size)):St c (M.set i m') L w':=by
 refine⟨⟨hos.trans ho.os,htp.trans ho.tape,hout.trans ho.output,Nat.le_trans ho.size hsz,fun k hk hO=>(hb k (Nat.lt_of_lt_of_le hk ho.size) (fun hk'=>(hF.rng i k hk').1.elim (fun h=>by omega) hO)).trans (ho.block k hk hO)⟩,fun j k=>(j=i∧F' k)∨(j≠i∧F j k),⟨?_,?_,?_⟩,fun f hf=> ?_⟩
 ·intro j m2 hm
  by_cases e:j=i
  ·subst e
   have hlt:j<M.length:=by
    rcases Nat.lt_or_ge j M.length with h'|h'
    ·exact h'
    ·rw[List.getElem?_eq_none h']at hi;cases hi
   rw[List.getElem?_set_self hlt]at hm
   cases hm
   exact bX.same hF' (fun k hk=> .inl ⟨rfl,hk⟩) (fun _ _ _=>rfl)
  ·rw[List.getElem?_set_ne (Ne.symm e)]at hm
   exact bX.same (hF.res j m2 hm) (fun k hk=> .inr ⟨e,hk⟩) (fun k hk hl=>hb k hl (fun hi'=>e (hF.dis j i k hk hi')))
 ·rintro j k (⟨_,hk⟩|⟨_,hk⟩)
  ·rcases hsub k hk with hk|⟨h1,h2⟩
   ·exact⟨(hF.rng i k hk).1,Nat.lt_of_lt_of_le (hF.rng i k hk).2 hsz⟩
   ·exact⟨.inl (Nat.le_trans ho.size h1),h2⟩
  ·exact⟨(hF.rng j k hk).1,Nat.lt_of_lt_of_le (hF.rng j k hk).2 hsz⟩
 ·rintro j1 j2 k (⟨e1,h1⟩|⟨e1,h1⟩) (⟨e2,h2⟩|⟨e2,h2⟩)
  ·rw[e1,e2]
  ·rcases hsub k h1 with h1|⟨h1,_⟩
   ·exact absurd (hF.dis _ _ k h2 h1) e2
   ·have:=(hF.rng _ k h2).2;omega
  ·rcases hsub k h2 with h2|⟨h2,_⟩
   ·exact absurd (hF.dis _ _ k h1 h2) e1
   ·have:=(hF.rng _ k h1).2;omega
  ·exact hF.dis _ _ k h1 h2
 ·exact f.mono (hL f hf) fun k hk hl=>⟨⟨hk.1,by
   rintro j (⟨_,h'⟩|⟨_,h'⟩)
   ·rcases hsub k h' with h'|⟨h',_⟩
    ·exact hk.2 _ h'
    ·omega
   ·exact hk.2 _ h'⟩,hb k hl (hk.2 i)⟩
theorem St.upd {w w':World} (t:St c M L w) {i:Nat} {m m':bX} (hi:M[i]? = some m) (hos:w'.os=w.os) (htp:w'.tape=w.tape) (hout:w'.output=w.output) (hsz:w.heap.size<=w'.heap.size)
  (h:∀F,m.p w F->(∀k,F k->c.mine k∧k<w.heap.size)->(∀k,k<w.heap.size->¬F k->w'.heap[k]? = w.heap[k]?)∧∃F',m'.p w' F'∧∀k,F' k->F k∨(w.heap.size<=k∧k<w'.heap.size)):
  St c (M.set i m') L w':=by
 obtain⟨ho,F,hF,hL⟩:=t
 obtain⟨hb,F',hF',hsub⟩:=h (F i) (hF.res i m hi) (hF.rng i)
 exact Fg ho hF hL hi hos htp hout hsz hb hF' hsub
end
end
section
section
variable {P:Program} {rd:Option Nat} {c:Ax} {n:Sz} {σ:Fr} {M L:List bX} {Q:Exit->Act->World->Prop} {ops:Array Oper} {rest:List Oper}
variable {d:Option Tmp} {D:Nat} {ty:TypeId} {pos:String} {aft:Array Edge} {g:Option (Nat×Bool)}
def one:Value->Bool
 | .agg _ | .tuple _=>false
 |_=>true
theorem eY {v:Value} (h:one v=true):v.cells = #[v]:=by cases v<;>first|rfl|cases h
theorem oQ {v:Value} (h:one v=true):v.oneCell'=true:=by cases v<;>first|rfl|cases h
theorem Fz {w:World} {b o:Nat} {cs:List Value} {T:TypeId} (h:w.heap[b]? = some (.cells cs.toArray T (0,0))) (v:Value):
  (w.setCell ⟨b,o,none⟩ v).heap[b]? = some (.cells (cs.set o v).toArray T (0,0)):=by
 simp[World.setCell,Array.getElem?_modify,h]
theorem St.store {w:World} (t:St c M L w) {i b o:Nat} {cs:List Value} {T:TypeId} (hi:M[i]? = some (bJ b cs T)) (v:Value):
  St c (M.set i (bJ b (cs.set o v) T)) L (w.setCell ⟨b,o,none⟩ v):=
 t.upd hi rfl rfl rfl (by simp[World.setCell]) fun F hF _=>⟨fun k _ hk=>Below.heap_setCell _ _ _ _ (fun e=>hk (by simp only at e;subst e;exact hF.1)),
  F,⟨hF.1,Fz hF.2 v⟩,fun _ h=> .inl h⟩
theorem Ik {T:TypeId} {dT:Ty} {w:World} (hT:sT P T dT) (hs:dT.size=1) {A:Addr} {v e:Value} (hv:one v=true) (h:w.cell? A=some e) (hf:w.frozen? A=false):
  (Instr.storeAt T (.pointer (some A)) v).run P w = .ok () (w.setCell A v):=by
 have h0:A.add 0=A:=rfl
 have hst:(store A v).run P w = .ok () (w.setCell A v):=by
  unfold store
  cases v<;>first|(simp only[Sem.run,h,hf];rfl)|cases hv
 simp only[Instr.storeAt,Instr.sureAddr,storeVar,eY hv]
 simp[hT.run_size w,hs,storeCells,h0,hst]
theorem eS [eM P] (i:Nat) {T T':TypeId} {s2:Nat} {z:Value} {dT:TypeDesc} {x y:Operand} {b o:Nat} {cs:List Value} {v:Value} (hx:ev σ x=some (.pointer (some ⟨b,o,none⟩)))
  (hy:ev σ y=some v) (hv:one v=true) (hM:M[i]? = some (bJ b cs T')) (hT:eM.tab P T=some ⟨dT,1,s2,z⟩) (ho:Nat.blt o cs.length=true)
  (h:J c n σ (M.set i (bJ b (cs.set o v) T')) L (wpList P ops Q rest)):
  J c n σ M L (wpList P ops Q (⟨none,.store T x y,ty,pos,aft,none⟩::rest)):=fun a w s t=>by
 refine mO rfl ?_
 obtain⟨F,hF⟩:=t.res hM
 have hlt:o<cs.length:=by simpa [Nat.blt_eq]using ho
 have hrun:(execOp a.eval ⟨none,.store T x y,ty,pos,aft,none⟩).run P w = .ok .skip (w.setCell ⟨b,o,none⟩ v):=by
  simp[execOp,s.eval hx,s.eval hy,Ik (eM.ok hT) rfl hv (bJ.cell hF (List.getElem?_eq_getElem hlt)) (PW hF o)]
 simp only[Oper.wp,hrun,Oper.upon]
 exact h _ _ s (t.store hM v)
theorem St.fill {w:World} (t:St c M L w) {i b:Nat} {cs cs':List Value} {T:TypeId} (hi:M[i]? = some (bJ b cs T)):
  St c (M.set i (bJ b cs' T)) L (w.setRow b cs'.toArray):=
 t.upd hi rfl rfl rfl (by simp) fun F hF _=>⟨fun k _ hk=>setRow_other w b k _ (fun e=>hk (by subst e;exact hF.1)),
  F,⟨hF.1,setRow_heap w b _ _ T _ hF.2⟩,fun _ h=> .inl h⟩
theorem bL [eM P] (i:Nat) {T T':TypeId} {s2:Nat} {z:Value} {dT:TypeDesc} {x y:Operand} {b:Nat} {cs vs:List Value} (hx:ev σ x=some (.pointer (some ⟨b,0,none⟩)))
  (hy:ev σ y=some (.agg vs.toArray)) (hv:vs.all one=true) (hM:M[i]? = some (bJ b cs T')) (hT:eM.tab P T=some ⟨dT,vs.length,s2,z⟩) (hl:Nat.beq vs.length cs.length=true)
  (h:J c n σ (M.set i (bJ b vs T')) L (wpList P ops Q rest)):
  J c n σ M L (wpList P ops Q (⟨none,.store T x y,ty,pos,aft,none⟩::rest)):=fun a w s t=>by
 refine mO rfl ?_
 obtain⟨F,hF⟩:=t.res hM
 have hlen:vs.length=cs.length:=Nat.eq_of_beq_eq_true hl
 have hone:∀v∈vs,v.oneCell'=true:=fun v hvm=>oQ (by simpa using List.all_eq_true.1 hv v hvm)
 obtain⟨iT,hiT,hsz,_,_⟩:=(eM.ok hT).info
 have hst:=run_storeVar_row (P:=P) w b T' T cs.toArray vs.toArray hF.2 (by simp[hiT,hsz]) (by simp[hlen]) (by simpa using hone)
 have hrun:(execOp a.eval ⟨none,.store T x y,ty,pos,aft,none⟩).run P w = .ok .skip (w.setRow b vs.toArray):=by
  simp[execOp,s.eval hx,s.eval hy,Instr.storeAt,Instr.sureAddr,hst]
 simp only[Oper.wp,hrun,Oper.upon]
 exact h _ _ s (t.fill hM)
def bQ (P:Program) (f:FuncId) (args:Array Value) (L:List bX) {A:Type} (ret:A->Value) (MO LO:A->List bX->List bX):Prop:=
 ∀(w0:World) (S0:Nat->Prop),(∀h∈L,h.p w0 S0)->Calls P f args w0 fun e w'=>∃x:A,e = .returned (ret x)∧St ⟨w0,S0,fun _=>False⟩ (MO x []) (LO x []) w'
def WL (m:Nat) (F' F:Nat->Nat->Prop) (i k:Nat):Prop:=(i<m∧F' i k)∨(m<=i∧F (i - m) k)
theorem Wh.new {w:World} {M:List bX} {F:Nat->Nat->Prop} {w0:World} {S0:Nat->Prop} (h:Wh ⟨w0,S0,fun _=>False⟩ w M F) {i k:Nat} (hk:F i k):w0.heap.size<=k:=by
 rcases(h.rng i k hk).1 with h|h
 ·exact h
 ·exact h.elim
theorem St.call {w w':World} {M1 L1:List bX} {F:Nat->Nat->Prop} (ho:Dh c.O c.w0 w) (hF:Wh c w M F) (hL:∀f∈L,f.p w (BS c F))
  (t:St ⟨w,BS c F,fun _=>False⟩ M1 L1 w'):St c (M1++M) (L1++L) w':=by
 obtain⟨ho',F',hF',hL'⟩:=t
 have ho':=ho'.ext
 have hb:=ho'.block
 refine⟨ho.trans ho',WL M1.length F' F,⟨?_,?_,?_⟩,fun f hf=> ?_⟩
 ·intro i m hm
  by_cases hi:i<M1.length
  ·rw[List.getElem?_append_left hi]at hm
   exact bX.same (hF'.res i m hm) (fun k hk=> .inl ⟨hi,hk⟩) (fun _ _ _=>rfl)
  ·rw[List.getElem?_append_right (by omega)]at hm
   exact bX.same (hF.res _ m hm) (fun k hk=> .inr ⟨by omega,hk⟩) (fun k _ hl=>hb k hl)
 ·rintro i k (⟨_,hk⟩|⟨_,hk⟩)
  ·exact⟨.inl (Nat.le_trans ho.size (hF'.new hk)),(hF'.rng i k hk).2⟩
  ·exact⟨(hF.rng _ k hk).1,Nat.lt_of_lt_of_le (hF.rng _ k hk).2 ho'.size⟩
 ·rintro i j k (⟨hi,h1⟩|⟨hi,h1⟩) (⟨hj,h2⟩|⟨hj,h2⟩)
  ·exact hF'.dis i j k h1 h2
  ·have:=hF'.new h1;have:=(hF.rng _ k h2).2;simp only at *;omega
  ·have:=hF'.new h2;have:=(hF.rng _ k h1).2;simp only at *;omega
  ·have:=hF.dis _ _ k h1 h2;omega
 ·rcases List.mem_append.1 hf with hf|hf
  ·refine bX.same (hL' f hf) (fun k hk=> ?_) (fun _ _ _=>rfl)
   obtain⟨hall,hno⟩:=hk
   have hall':BS c F k∨w.heap.size<=k:=by
    rcases hall with h|h|h
    ·exact .inl h
    ·exact .inr h
    ·exact h.elim
   refine⟨?_,?_⟩
   ·rcases hall' with h|h
    ·exact h.1
    ·exact .inr (.inl (Nat.le_trans ho.size h))
   ·rintro i (⟨_,hi⟩|⟨_,hi⟩)
    ·exact hno i hi
    ·rcases hall' with h|h
     ·exact h.2 _ hi
     ·have:=(hF.rng _ k hi).2;omega
  ·refine f.mono (hL f hf) fun k hk hl=>⟨⟨hk.1,?_⟩,hb k hl⟩
   rintro i (⟨_,hi⟩|⟨_,hi⟩)
   ·have:=hF'.new hi;omega
   ·exact hk.2 _ hi
theorem XH {xs:List Operand} {vs:List Value} {a:Act} (s:GG n σ a) (h:xs.map (ev σ)=vs.map some):xs.map a.eval=vs:=by
 induction xs generalizing vs with
 |nil=>cases vs<;>simp_all
 |cons x xs ih=>
  cases vs with
  |nil=>simp at h
  |cons v vs=>simp at h;simp[s.eval h.1,ih h.2]
def bO (P:Program) (f:FuncId):Prop:=∀args w,(callFunc f args).run P w = .ok (.enter f args) w
def Qg {A:Type} (c:Ax) (ret:A->Value) (MO LO:A->List bX->List bX) (e:Ending) (w:World):Prop:=∃x:A,e = .returned (ret x)∧St c (MO x []) (LO x []) w
def Dv:Nat->List Value->Fr
 |_,[]=>[]
 |k,v::vs=>(k,v)::Dv (k+1) vs
theorem GN (vs:List Value):∀k t v,lk (Dv k vs) t=some v->k<=t∧vs[t - k]? = some v:=by
 induction vs with
 |nil=>intro k t v h;simp[Dv,lk]at h
 | cons u vs ih =>
  intro k t v h
  simp only[Dv,lk]at h
  by_cases e:t=k
  ·subst e;simp at h;subst h;simp
  ·rw[nX e]at h
   obtain⟨h1,h2⟩:=ih (k+1) t v h
   refine⟨by omega,?_⟩
   have:t - k=(t - (k+1))+1:=by omega
   rw[this,List.getElem?_cons_succ];exact h2
theorem bQ.of {A:Type} {ret:A->Value} {MO LO:A->List bX->List bX} {f:FuncId} {fn:Func} {code:Code} {vs:List Value} {m:Nat}
  (hf:P.funcs[f]? = some fn) (hb:fn.body=some code) (hn:fn.ntmps=m) (hm:Nat.ble vs.length m=true)
  (h:∀c:Ax,J c ⟨m,[]⟩ (Dv 0 vs) [] L (code.wpr none P (u_ P fn (Qg c ret MO LO)))):bQ P f vs.toArray L ret MO LO:=fun w0 S0 hL=>by
 have hle:vs.length<=m:=by simpa using hm
 refine AP hf hb (h ⟨w0,S0,fun _=>False⟩ _ _ ⟨rfl,by simp[hn,hle],?_⟩ ⟨Dh.refl _,fun _ _=>False,⟨?_,?_,?_⟩,?_⟩)
 ·intro t v hv
  obtain⟨_,h2⟩:=GN vs 0 t v hv
  rw[Nat.sub_zero]at h2
  have hlt:t<vs.length:=by
   rcases Nat.lt_or_ge t vs.length with h'|h'
   ·exact h'
   ·rw[List.getElem?_eq_none h']at h2;cases h2
  rw[Array.getElem?_append_left (by simpa using hlt)]
  simpa using h2
 ·intro i m h;simp at h
 ·intro i k h;exact h.elim
 ·intro i j k h;exact h.elim
 ·intro f hf
  exact bX.same (hL f hf) (fun k hk=>⟨.inl hk,fun _ h=>h⟩) (fun _ _ _=>rfl)
theorem RJ [eM P] {T T':TypeId} {s2:Nat} {z:Value} {dT:TypeDesc} {w:World} {b:Nat} {cs:List Value} {F:Nat->Prop} (hF:(bJ b cs T').p w F)
  (hT:eM.tab P T=some ⟨dT,cs.length,s2,z⟩) (hd:Bb dT=true):(loadVar T ⟨b,0,none⟩).run P w = .ok (.agg cs.toArray) w:=by
 have hl:=run_loadCells_list (P:=P) w ⟨b,0,none⟩ cs (fun j v hv=>by rw[fM,Nat.zero_add];exact bJ.cell hF hv)
 simp[loadVar,(eM.ok hT).run_agg w,hd,(eM.ok hT).run_size w,hl]
end
end
end Go.Sx
end
section
namespace Go.Sx
open Go.Proofs
theorem Vv {P:Program} {T:Nat} {i:TypeInfo} (h:P.types[T]? = some i):P.info? T=some i:=by
 unfold Tables.info?
 rw[if_pos (Array.getElem?_eq_some_iff.1 h).1];exact h
noncomputable def zOf (i:TypeInfo):Value:=i.zero.getD (.tuple #[])
noncomputable def c_ (d:TypeDesc) (s b:Nat) (i:TypeInfo):Ty:=⟨d,s,b,zOf i⟩
noncomputable def y2:=c_ Tryz.t2.desc 1 8 Tryz.t2
noncomputable def y3:=c_ Tryz.t2.desc 1 8 Tryz.t3
noncomputable def y4:=c_ Tryz.t4.desc 1 1 Tryz.t4
noncomputable def y5:=c_ Tryz.t5.desc 1 1 Tryz.t5
noncomputable def y6:=c_ Tryz.t5.desc 1 1 Tryz.t6
noncomputable def y7:=c_ Tryz.t7.desc 4 24 Tryz.t7
noncomputable def y8:=c_ Tryz.t7.desc 4 24 Tryz.t8
noncomputable def y9:=c_ Tryz.t9.desc 1 16 Tryz.t9
noncomputable def y10:=c_ Tryz.t9.desc 1 16 Tryz.t10
noncomputable def y11:=c_ Tryz.t9.desc 1 16 Tryz.t11
noncomputable def y12:=c_ Tryz.t12.desc 1 8 Tryz.t12
noncomputable def y13:=c_ Tryz.t13.desc 2 24 Tryz.t13
noncomputable def y14:=c_ Tryz.t13.desc 2 24 Tryz.t14
noncomputable def y15:=c_ Tryz.t15.desc 1 8 Tryz.t15
noncomputable def y16:=c_ Tryz.t16.desc 1 8 Tryz.t16
noncomputable def y17:=c_ Tryz.t17.desc 1 8 Tryz.t17
noncomputable def y18:=c_ Tryz.t18.desc 1 8 Tryz.t18
noncomputable def y19:=c_ Tryz.t18.desc 1 8 Tryz.t19
noncomputable def y20:=c_ Tryz.t20.desc 1 16 Tryz.t20
noncomputable def y21:=c_ Tryz.t21.desc 1 4 Tryz.t21
noncomputable def y22:=c_ Tryz.t22.desc 1 24 Tryz.t22
noncomputable def y23:=c_ Tryz.t23.desc 1 24 Tryz.t23
noncomputable def y24:=c_ Tryz.t24.desc 3 64 Tryz.t24
noncomputable def y25:=c_ Tryz.t24.desc 3 64 Tryz.t25
noncomputable def y26:=c_ Tryz.t26.desc 1 4 Tryz.t26
noncomputable def y27:=c_ Tryz.t27.desc 1 24 Tryz.t27
noncomputable def y28:=c_ Tryz.t28.desc 1 8 Tryz.t28
noncomputable def y29:=c_ Tryz.t29.desc 1 8 Tryz.t29
noncomputable def y30:=c_ Tryz.t2.desc 1 8 Tryz.t30
noncomputable def y32:=c_ Tryz.t32.desc 1 8 Tryz.t32
noncomputable def y33:=c_ Tryz.t33.desc 1 8 Tryz.t33
noncomputable def y34:=c_ Tryz.t34.desc 1 8 Tryz.t34
noncomputable def y35:=c_ Tryz.t35.desc 1 8 Tryz.t35
noncomputable def y36:=c_ Tryz.t36.desc 1 8 Tryz.t36
noncomputable def y37:=c_ Tryz.t37.desc 1 8 Tryz.t37
noncomputable def y38:=c_ Tryz.t38.desc 1 8 Tryz.t38
noncomputable def y39:=c_ Tryz.t39.desc 1 24 Tryz.t39
noncomputable def y40:=c_ Tryz.t40.desc 1 24 Tryz.t40
noncomputable def y41:=c_ Tryz.t41.desc 3 64 Tryz.t41
noncomputable def y42:=c_ Tryz.t41.desc 3 64 Tryz.t42
noncomputable def y43:=c_ Tryz.t43.desc 2 32 Tryz.t43
noncomputable def y44:=c_ Tryz.t43.desc 2 32 Tryz.t44
noncomputable def y45:=c_ Tryz.t45.desc 1 8 Tryz.t45
noncomputable def y46:=c_ Tryz.t46.desc 1 8 Tryz.t46
noncomputable def y47:=c_ Tryz.t47.desc 1 24 Tryz.t47
noncomputable def y48:=c_ Tryz.t48.desc 6 56 Tryz.t48
noncomputable def y49:=c_ Tryz.t48.desc 6 56 Tryz.t49
noncomputable def y50:=c_ Tryz.t50.desc 1 8 Tryz.t50
noncomputable def y51:=c_ Tryz.t51.desc 1 8 Tryz.t51
noncomputable def y52:=c_ Tryz.t52.desc 1 8 Tryz.t52
noncomputable def y53:=c_ Tryz.t12.desc 1 8 Tryz.t53
noncomputable def y54:=c_ Tryz.t54.desc 1 8 Tryz.t54
noncomputable def y56:=c_ Tryz.t56.desc 1 8 Tryz.t56
noncomputable def y57:=c_ Tryz.t57.desc 1 8 Tryz.t57
noncomputable def y58:=c_ Tryz.t58.desc 1 8 Tryz.t58
noncomputable def y59:=c_ Tryz.t59.desc 1 8 Tryz.t59
noncomputable def y60:=c_ Tryz.t60.desc 1 8 Tryz.t60
noncomputable def y61:=c_ Tryz.t61.desc 1 8 Tryz.t61
noncomputable def y62:=c_ Tryz.t62.desc 1 8 Tryz.t62
noncomputable def y63:=c_ Tryz.t63.desc 1 8 Tryz.t63
noncomputable def y64:=c_ Tryz.t64.desc 1 8 Tryz.t64
noncomputable def y65:=c_ Tryz.t65.desc 1 8 Tryz.t65
noncomputable def y66:=c_ Tryz.t66.desc 1 8 Tryz.t66
noncomputable def y67:=c_ Tryz.t67.desc 1 8 Tryz.t67
noncomputable def y68:=c_ Tryz.t68.desc 1 8 Tryz.t68
noncomputable def y69:=c_ Tryz.t69.desc 2 32 Tryz.t69
noncomputable def y70:=c_ Tryz.t69.desc 2 32 Tryz.t70
noncomputable def y71:=c_ Tryz.t71.desc 1 8 Tryz.t71
noncomputable def y72:=c_ Tryz.t72.desc 1 8 Tryz.t72
noncomputable def y73:=c_ Tryz.t73.desc 1 8 Tryz.t73
noncomputable def y74:=c_ Tryz.t74.desc 1 8 Tryz.t74
noncomputable def y75:=c_ Tryz.t75.desc 1 8 Tryz.t75
noncomputable def y77:=c_ Tryz.t77.desc 1 8 Tryz.t77
noncomputable def y78:=c_ Tryz.t78.desc 1 8 Tryz.t78
noncomputable def y79:=c_ Tryz.t79.desc 1 8 Tryz.t79
noncomputable def y81:=c_ Tryz.t81.desc 1 8 Tryz.t81
noncomputable def y82:=c_ Tryz.t82.desc 1 8 Tryz.t82
noncomputable def y83:=c_ Tryz.t83.desc 2 16 Tryz.t83
noncomputable def y84:=c_ Tryz.t83.desc 2 16 Tryz.t84
noncomputable def y85:=c_ Tryz.t85.desc 1 8 Tryz.t85
noncomputable def y86:=c_ Tryz.t86.desc 1 8 Tryz.t86
noncomputable def y87:=c_ Tryz.t87.desc 1 8 Tryz.t87
noncomputable def y88:=c_ Tryz.t88.desc 1 8 Tryz.t88
noncomputable def y89:=c_ Tryz.t89.desc 1 24 Tryz.t89
noncomputable def y90:=c_ Tryz.t90.desc 1 8 Tryz.t90
noncomputable def y91:=c_ Tryz.t91.desc 1 8 Tryz.t91
noncomputable def y92:=c_ Tryz.t92.desc 1 8 Tryz.t92
noncomputable def y93:=c_ Tryz.t93.desc 1 8 Tryz.t93
noncomputable def y94:=c_ Tryz.t94.desc 1 8 Tryz.t94
noncomputable def y95:=c_ Tryz.t95.desc 1 8 Tryz.t95
noncomputable def y97:=c_ Tryz.t97.desc 1 8 Tryz.t97
noncomputable def y98:=c_ Tryz.t98.desc 1 24 Tryz.t98
noncomputable def YP:=c_ Tryz.t100.desc 1 8 Tryz.t100
noncomputable def YQ:=c_ Tryz.t101.desc 1 8 Tryz.t101
noncomputable def YR:=c_ Tryz.t102.desc 1 24 Tryz.t102
noncomputable def YS:=c_ Tryz.t103.desc 3 64 Tryz.t103
noncomputable def YT:=c_ Tryz.t103.desc 3 64 Tryz.t104
noncomputable def YU:=c_ Tryz.t105.desc 7 152 Tryz.t105
noncomputable def YV:=c_ Tryz.t105.desc 7 152 Tryz.t106
noncomputable def YW:=c_ Tryz.t108.desc 1 8 Tryz.t108
noncomputable def YX:=c_ Tryz.t109.desc 1 8 Tryz.t109
noncomputable def YY:=c_ Tryz.t110.desc 1 8 Tryz.t110
noncomputable def YZ:=c_ Tryz.t111.desc 1 8 Tryz.t111
noncomputable def Y_:=c_ Tryz.t112.desc 1 8 Tryz.t112
noncomputable def Za:=c_ Tryz.t113.desc 1 8 Tryz.t113
noncomputable def Zb:=c_ Tryz.t114.desc 1 24 Tryz.t114
noncomputable def Zc:=c_ Tryz.t115.desc 1 8 Tryz.t115
noncomputable def Zd:=c_ Tryz.t116.desc 1 8 Tryz.t116
noncomputable def Ze:=c_ Tryz.t118.desc 1 8 Tryz.t118
noncomputable def Zf:=c_ Tryz.t119.desc 1 8 Tryz.t119
noncomputable def Zg:=c_ Tryz.t120.desc 1 24 Tryz.t120
noncomputable def Zh:=c_ Tryz.t121.desc 1 8 Tryz.t121
noncomputable def Zi:=c_ Tryz.t122.desc 4 32 Tryz.t122
noncomputable def Zj:=c_ Tryz.t122.desc 4 32 Tryz.t123
noncomputable def Zk:=c_ Tryz.t125.desc 1 8 Tryz.t125
noncomputable def Zl:=c_ Tryz.t126.desc 2 16 Tryz.t126
noncomputable def Zm:=c_ Tryz.t126.desc 2 16 Tryz.t127
noncomputable def Zn:=c_ Tryz.t129.desc 1 8 Tryz.t129
noncomputable def Zo:=c_ Tryz.t130.desc 1 8 Tryz.t130
noncomputable def Zp:=c_ Tryz.t131.desc 1 8 Tryz.t131
noncomputable def Zq:=c_ Tryz.t132.desc 1 8 Tryz.t132
noncomputable def Zr:=c_ Tryz.t133.desc 1 8 Tryz.t133
noncomputable def Zs:=c_ Tryz.t134.desc 1 8 Tryz.t134
noncomputable def Zt:=c_ Tryz.t135.desc 1 8 Tryz.t135
noncomputable def Zu:=c_ Tryz.t136.desc 1 8 Tryz.t136
noncomputable def Zv:=c_ Tryz.t137.desc 1 8 Tryz.t137
noncomputable def Zw:=c_ Tryz.t138.desc 1 8 Tryz.t138
noncomputable def Zx:=c_ Tryz.t139.desc 1 8 Tryz.t139
noncomputable def Zy:=c_ Tryz.t140.desc 1 8 Tryz.t140
noncomputable def Zz:=c_ Tryz.t141.desc 1 8 Tryz.t141
noncomputable def ZA:=c_ Tryz.t142.desc 1 8 Tryz.t142
noncomputable def ZB:=c_ Tryz.t143.desc 1 8 Tryz.t143
noncomputable def ZC:=c_ Tryz.t144.desc 1 8 Tryz.t144
noncomputable def ZD:=c_ Tryz.t145.desc 1 8 Tryz.t145
noncomputable def ZE:=c_ Tryz.t146.desc 1 8 Tryz.t146
noncomputable def ZF:=c_ Tryz.t147.desc 1 8 Tryz.t147
noncomputable def ZG:=c_ Tryz.t148.desc 1 8 Tryz.t148
noncomputable def ZH:=c_ Tryz.t149.desc 1 8 Tryz.t149
noncomputable def ZI:=c_ Tryz.t150.desc 2 48 Tryz.t150
noncomputable def ZJ:=c_ Tryz.t150.desc 2 48 Tryz.t151
noncomputable def ZK:=c_ Tryz.t152.desc 1 8 Tryz.t152
noncomputable def ZL:=c_ Tryz.t153.desc 1 8 Tryz.t153
noncomputable def ZM:=c_ Tryz.t154.desc 1 8 Tryz.t154
noncomputable def ZN:=c_ Tryz.t155.desc 1 8 Tryz.t155
noncomputable def ZO:=c_ Tryz.t156.desc 1 8 Tryz.t156
noncomputable def ZP:=c_ Tryz.t157.desc 1 8 Tryz.t157
noncomputable def ZQ:=c_ Tryz.t158.desc 1 8 Tryz.t158
noncomputable def ZR:=c_ Tryz.t159.desc 1 8 Tryz.t159
noncomputable def ZS:=c_ Tryz.t160.desc 1 8 Tryz.t160
noncomputable def ZT:=c_ Tryz.t161.desc 1 8 Tryz.t161
noncomputable def ZU:=c_ Tryz.t162.desc 3 24 Tryz.t162
noncomputable def ZV:=c_ Tryz.t163.desc 1 8 Tryz.t163
noncomputable def ZW:=c_ Tryz.t164.desc 1 8 Tryz.t164
noncomputable def ZX:=c_ Tryz.t165.desc 1 8 Tryz.t165
noncomputable def ZY:=c_ Tryz.t166.desc 1 8 Tryz.t166
noncomputable def ZZ:=c_ Tryz.t167.desc 1 8 Tryz.t167
noncomputable def Z_:=c_ Tryz.t168.desc 4 40 Tryz.t168
noncomputable def aaa:=c_ Tryz.t168.desc 4 40 Tryz.t169
noncomputable def aab:=c_ Tryz.t170.desc 0 0 Tryz.t170
noncomputable def aac:=c_ Tryz.t171.desc 0 0 Tryz.t171
noncomputable def aad:=c_ Tryz.t171.desc 0 0 Tryz.t172
noncomputable def aae:=c_ Tryz.t5.desc 1 1 Tryz.t173
noncomputable def aaf:=c_ Tryz.t5.desc 1 1 Tryz.t174
noncomputable def aag:=c_ Tryz.t175.desc 1 8 Tryz.t175
noncomputable def aah:=c_ Tryz.t176.desc 1 8 Tryz.t176
noncomputable def aai:=c_ Tryz.t21.desc 1 4 Tryz.t177
noncomputable def aaj:=c_ Tryz.t21.desc 1 4 Tryz.t178
noncomputable def aak:=c_ Tryz.t179.desc 11 48 Tryz.t179
noncomputable def aal:=c_ Tryz.t179.desc 11 48 Tryz.t180
noncomputable def tL {α:Type} (T i:Nat) (t:α):Option α:=bif Nat.beq T i then some t else none
noncomputable def tN {α:Type} (T i:Nat) (a b:Option α):Option α:=bif Nat.blt T i then a else b
noncomputable def zG (T:Nat):Option Ty:=(tN T 90 (tN T 45 (tN T 23 (tN T 12 (tN T 7 (tN T 4 (tN T 3 (tL T 2 y2) (tL T 3 y3)) (tN T 5 (tL T 4 y4) (tN T 6 (tL T 5 y5) (tL T 6 y6)))) (tN T 9 (tN T 8 (tL T 7 y7) (tL T 8 y8)) (tN T 10 (tL T 9 y9) (tN T 11 (tL T 10 y10) (tL T 11 y11))))) (tN T 17 (tN T 14 (tN T 13 (tL T 12 y12) (tL T 13 y13)) (tN T 15 (tL T 14 y14) (tN T 16 (tL T 15 y15) (tL T 16 y16)))) (tN T 20 (tN T 18 (tL T 17 y17) (tN T 19 (tL T 18 y18) (tL T 19 y19))) (tN T 21 (tL T 20 y20) (tN T 22 (tL T 21 y21) (tL T 22 y22)))))) (tN T 34 (tN T 28 (tN T 25 (tN T 24 (tL T 23 y23) (tL T 24 y24)) (tN T 26 (tL T 25 y25) (tN T 27 (tL T 26 y26) (tL T 27 y27)))) (tN T 30 (tN T 29 (tL T 28 y28) (tL T 29 y29)) (tN T 32 (tL T 30 y30) (tN T 33 (tL T 32 y32) (tL T 33 y33))))) (tN T 39 (tN T 36 (tN T 35 (tL T 34 y34) (tL T 35 y35)) (tN T 37 (tL T 36 y36) (tN T 38 (tL T 37 y37) (tL T 38 y38)))) (tN T 42 (tN T 40 (tL T 39 y39) (tN T 41 (tL T 40 y40) (tL T 41 y41))) (tN T 43 (tL T 42 y42) (tN T 44 (tL T 43 y43) (tL T 44 y44))))))) (tN T 67 (tN T 56 (tN T 50 (tN T 47 (tN T 46 (tL T 45 y45) (tL T 46 y46)) (tN T 48 (tL T 47 y47) (tN T 49 (tL T 48 y48) (tL T 49 y49)))) (tN T 52 (tN T 51 (tL T 50 y50) (tL T 51 y51)) (tN T 53 (tL T 52 y52) (tN T 54 (tL T 53 y53) (tL T 54 y54))))) (tN T 61 (tN T 58 (tN T 57 (tL T 56 y56) (tL T 57 y57)) (tN T 59 (tL T 58 y58) (tN T 60 (tL T 59 y59) (tL T 60 y60)))) (tN T 64 (tN T 62 (tL T 61 y61) (tN T 63 (tL T 62 y62) (tL T 63 y63))) (tN T 65 (tL T 64 y64) (tN T 66 (tL T 65 y65) (tL T 66 y66)))))) (tN T 78 (tN T 72 (tN T 69 (tN T 68 (tL T 67 y67) (tL T 68 y68)) (tN T 70 (tL T 69 y69) (tN T 71 (tL T 70 y70) (tL T 71 y71)))) (tN T 74 (tN T 73 (tL T 72 y72) (tL T 73 y73)) (tN T 75 (tL T 74 y74) (tN T 77 (tL T 75 y75) (tL T 77 y77))))) (tN T 84 (tN T 81 (tN T 79 (tL T 78 y78) (tL T 79 y79)) (tN T 82 (tL T 81 y81) (tN T 83 (tL T 82 y82) (tL T 83 y83)))) (tN T 87 (tN T 85 (tL T 84 y84) (tN T 86 (tL T 85 y85) (tL T 86 y86))) (tN T 88 (tL T 87 y87) (tN T 89 (tL T 88 y88) (tL T 89 y89)))))))) (tN T 138 (tN T 114 (tN T 102 (tN T 95 (tN T 92 (tN T 91 (tL T 90 y90) (tL T 91 y91)) (tN T 93 (tL T 92 y92) (tN T 94 (tL T 93 y93) (tL T 94 y94)))) (tN T 98 (tN T 97 (tL T 95 y95) (tL T 97 y97)) (tN T 100 (tL T 98 y98) (tN T 101 (tL T 100 YP) (tL T 101 YQ))))) (tN T 108 (tN T 104 (tN T 103 (tL T 102 YR) (tL T 103 YS)) (tN T 105 (tL T 104 YT) (tN T 106 (tL T 105 YU) (tL T 106 YV)))) (tN T 111 (tN T 109 (tL T 108 YW) (tN T 110 (tL T 109 YX) (tL T 110 YY))) (tN T 112 (tL T 111 YZ) (tN T 113 (tL T 112 Y_) (tL T 113 Za)))))) (tN T 126 (tN T 120 (tN T 116 (tN T 115 (tL T 114 Zb) (tL T 115 Zc)) (tN T 118 (tL T 116 Zd) (tN T 119 (tL T 118 Ze) (tL T 119 Zf)))) (tN T 122 (tN T 121 (tL T 120 Zg) (tL T 121 Zh)) (tN T 123 (tL T 122 Zi) (tN T 125 (tL T 123 Zj) (tL T 125 Zk))))) (tN T 132 (tN T 129 (tN T 127 (tL T 126 Zl) (tL T 127 Zm)) (tN T 130 (tL T 129 Zn) (tN T 131 (tL T 130 Zo) (tL T 131 Zp)))) (tN T 135 (tN T 133 (tL T 132 Zq) (tN T 134 (tL T 133 Zr) (tL T 134 Zs))) (tN T 136 (tL T 135 Zt) (tN T 137 (tL T 136 Zu) (tL T 137 Zv))))))) (tN T 159 (tN T 148 (tN T 143 (tN T 140 (tN T 139 (tL T 138 Zw) (tL T 139 Zx)) (tN T 141 (tL T 140 Zy) (tN T 142 (tL T 141 Zz) (tL T 142 ZA)))) (tN T 145 (tN T 144 (tL T 143 ZB) (tL T 144 ZC)) (tN T 146 (tL T 145 ZD) (tN T 147 (tL T 146 ZE) (tL T 147 ZF))))) (tN T 153 (tN T 150 (tN T 149 (tL T 148 ZG) (tL T 149 ZH)) (tN T 151 (tL T 150 ZI) (tN T 152 (tL T 151 ZJ) (tL T 152 ZK)))) (tN T 156 (tN T 154 (tL T 153 ZL) (tN T 155 (tL T 154 ZM) (tL T 155 ZN))) (tN T 157 (tL T 156 ZO) (tN T 158 (tL T 157 ZP) (tL T 158 ZQ)))))) (tN T 170 (tN T 164 (tN T 161 (tN T 160 (tL T 159 ZR) (tL T 160 ZS)) (tN T 162 (tL T 161 ZT) (tN T 163 (tL T 162 ZU) (tL T 163 ZV)))) (tN T 167 (tN T 165 (tL T 164 ZW) (tN T 166 (tL T 165 ZX) (tL T 166 ZY))) (tN T 168 (tL T 167 ZZ) (tN T 169 (tL T 168 Z_) (tL T 169 aaa))))) (tN T 175 (tN T 172 (tN T 171 (tL T 170 aab) (tL T 171 aac)) (tN T 173 (tL T 172 aad) (tN T 174 (tL T 173 aae) (tL T 174 aaf)))) (tN T 178 (tN T 176 (tL T 175 aag) (tN T 177 (tL T 176 aah) (tL T 177 aai))) (tN T 179 (tL T 178 aaj) (tN T 180 (tL T 179 aak) (tL T 180 aal)))))))))
theorem gF {T i s b:Nat} {u:TypeDesc} {I:TypeInfo} {d:Ty} (hu:Tryz.prog.underlying i=some u) (hi:Tryz.prog.types[i]? = some I) (hs:I.size=s:=by rfl) (hb':I.bytes=b:=by rfl) (hz:I.zero=some (zOf I):=by rfl):tL T i (c_ u s b I)=some d->sT Tryz.prog T d:=by
 intro e
 unfold tL at e
 cases hb:Nat.beq T i with
 |true=>rw[hb]at e;cases e;rw[Nat.eq_of_beq_eq_true hb];exact⟨hu,I,Vv hi,hs,hb',hz⟩
 |false=>rw[hb]at e;cases e
theorem gG {T i:Nat} {x y:Option Ty} {d:Ty} (hx:x=some d->sT Tryz.prog T d) (hy:y=some d->sT Tryz.prog T d):tN T i x y=some d->sT Tryz.prog T d:=by
 unfold tN
 cases Nat.blt T i
 ·exact hy
 ·exact hx
theorem LZ {T:Nat} {d:Ty}:zG T=some d->sT Tryz.prog T d:=
 (gG (gG (gG (gG (gG (gG (gG (gF Tryz.underlying2 Tryz.type2) (gF Tryz.underlying3 Tryz.type3)) (gG (gF Tryz.underlying4 Tryz.type4) (gG (gF Tryz.underlying5 Tryz.type5) (gF Tryz.underlying6 Tryz.type6)))) (gG (gG (gF Tryz.underlying7 Tryz.type7) (gF Tryz.underlying8 Tryz.type8)) (gG (gF Tryz.underlying9 Tryz.type9) (gG (gF Tryz.underlying10 Tryz.type10) (gF Tryz.underlying11 Tryz.type11))))) (gG (gG (gG (gF Tryz.underlying12 Tryz.type12) (gF Tryz.underlying13 Tryz.type13)) (gG (gF Tryz.underlying14 Tryz.type14) (gG (gF Tryz.underlying15 Tryz.type15) (gF Tryz.underlying16 Tryz.type16)))) (gG (gG (gF Tryz.underlying17 Tryz.type17) (gG (gF Tryz.underlying18 Tryz.type18) (gF Tryz.underlying19 Tryz.type19))) (gG (gF Tryz.underlying20 Tryz.type20) (gG (gF Tryz.underlying21 Tryz.type21) (gF Tryz.underlying22 Tryz.type22)))))) (gG (gG (gG (gG (gF Tryz.underlying23 Tryz.type23) (gF Tryz.underlying24 Tryz.type24)) (gG (gF Tryz.underlying25 Tryz.type25) (gG (gF Tryz.underlying26 Tryz.type26) (gF Tryz.underlying27 Tryz.type27)))) (gG (gG (gF Tryz.underlying28 Tryz.type28) (gF Tryz.underlying29 Tryz.type29)) (gG (gF Tryz.underlying30 Tryz.type30) (gG (gF Tryz.underlying32 Tryz.type32) (gF Tryz.underlying33 Tryz.type33))))) (gG (gG (gG (gF Tryz.underlying34 Tryz.type34) (gF Tryz.underlying35 Tryz.type35)) (gG (gF Tryz.underlying36 Tryz.type36) (gG (gF Tryz.underlying37 Tryz.type37) (gF Tryz.underlying38 Tryz.type38)))) (gG (gG (gF Tryz.underlying39 Tryz.type39) (gG (gF Tryz.underlying40 Tryz.type40) (gF Tryz.underlying41 Tryz.type41))) (gG (gF Tryz.underlying42 Tryz.type42) (gG (gF Tryz.underlying43 Tryz.type43) (gF Tryz.underlying44 Tryz.type44))))))) (gG (gG (gG (gG (gG (gF Tryz.underlying45 Tryz.type45) (gF Tryz.underlying46 Tryz.type46)) (gG (gF Tryz.underlying47 Tryz.type47) (gG (gF Tryz.underlying48 Tryz.type48) (gF Tryz.underlying49 Tryz.type49)))) (gG (gG (gF Tryz.underlying50 Tryz.type50) (gF Tryz.underlying51 Tryz.type51)) (gG (gF Tryz.underlying52 Tryz.type52) (gG (gF Tryz.underlying53 Tryz.type53) (gF Tryz.underlying54 Tryz.type54))))) (gG (gG (gG (gF Tryz.underlying56 Tryz.type56) (gF Tryz.underlying57 Tryz.type57)) (gG (gF Tryz.underlying58 Tryz.type58) (gG (gF Tryz.underlying59 Tryz.type59) (gF Tryz.underlying60 Tryz.type60)))) (gG (gG (gF Tryz.underlying61 Tryz.type61) (gG (gF Tryz.underlying62 Tryz.type62) (gF Tryz.underlying63 Tryz.type63))) (gG (gF Tryz.underlying64 Tryz.type64) (gG (gF Tryz.underlying65 Tryz.type65) (gF Tryz.underlying66 Tryz.type66)))))) (gG (gG (gG (gG (gF Tryz.underlying67 Tryz.type67) (gF Tryz.underlying68 Tryz.type68)) (gG (gF Tryz.underlying69 Tryz.type69) (gG (gF Tryz.underlying70 Tryz.type70) (gF Tryz.underlying71 Tryz.type71)))) (gG (gG (gF Tryz.underlying72 Tryz.type72) (gF Tryz.underlying73 Tryz.type73)) (gG (gF Tryz.underlying74 Tryz.type74) (gG (gF Tryz.underlying75 Tryz.type75) (gF Tryz.underlying77 Tryz.type77))))) (gG (gG (gG (gF Tryz.underlying78 Tryz.type78) (gF Tryz.underlying79 Tryz.type79)) (gG (gF Tryz.underlying81 Tryz.type81) (gG (gF Tryz.underlying82 Tryz.type82) (gF Tryz.underlying83 Tryz.type83)))) (gG (gG (gF Tryz.underlying84 Tryz.type84) (gG (gF Tryz.underlying85 Tryz.type85) (gF Tryz.underlying86 Tryz.type86))) (gG (gF Tryz.underlying87 Tryz.type87) (gG (gF Tryz.underlying88 Tryz.type88) (gF Tryz.underlying89 Tryz.type89)))))))) (gG (gG (gG (gG (gG (gG (gF Tryz.underlying90 Tryz.type90) (gF Tryz.underlying91 Tryz.type91)) (gG (gF Tryz.underlying92 Tryz.type92) (gG (gF Tryz.underlying93 Tryz.type93) (gF Tryz.underlying94 Tryz.type94)))) (gG (gG (gF Tryz.underlying95 Tryz.type95) (gF Tryz.underlying97 Tryz.type97)) (gG (gF Tryz.underlying98 Tryz.type98) (gG (gF Tryz.underlying100 Tryz.type100) (gF Tryz.underlying101 Tryz.type101))))) (gG (gG (gG (gF Tryz.underlying102 Tryz.type102) (gF Tryz.underlying103 Tryz.type103)) (gG (gF Tryz.underlying104 Tryz.type104) (gG (gF Tryz.underlying105 Tryz.type105) (gF Tryz.underlying106 Tryz.type106)))) (gG (gG (gF Tryz.underlying108 Tryz.type108) (gG (gF Tryz.underlying109 Tryz.type109) (gF Tryz.underlying110 Tryz.type110))) (gG (gF Tryz.underlying111 Tryz.type111) (gG (gF Tryz.underlying112 Tryz.type112) (gF Tryz.underlying113 Tryz.type113)))))) (gG (gG (gG (gG (gF Tryz.underlying114 Tryz.type114) (gF Tryz.underlying115 Tryz.type115)) (gG (gF Tryz.underlying116 Tryz.type116) (gG (gF Tryz.underlying118 Tryz.type118) (gF Tryz.underlying119 Tryz.type119)))) (gG (gG (gF Tryz.underlying120 Tryz.type120) (gF Tryz.underlying121 Tryz.type121)) (gG (gF Tryz.underlying122 Tryz.type122) (gG (gF Tryz.underlying123 Tryz.type123) (gF Tryz.underlying125 Tryz.type125))))) (gG (gG (gG (gF Tryz.underlying126 Tryz.type126) (gF Tryz.underlying127 Tryz.type127)) (gG (gF Tryz.underlying129 Tryz.type129) (gG (gF Tryz.underlying130 Tryz.type130) (gF Tryz.underlying131 Tryz.type131)))) (gG (gG (gF Tryz.underlying132 Tryz.type132) (gG (gF Tryz.underlying133 Tryz.type133) (gF Tryz.underlying134 Tryz.type134))) (gG (gF Tryz.underlying135 Tryz.type135) (gG (gF Tryz.underlying136 Tryz.type136) (gF Tryz.underlying137 Tryz.type137))))))) (gG (gG (gG (gG (gG (gF Tryz.underlying138 Tryz.type138) (gF Tryz.underlying139 Tryz.type139)) (gG (gF Tryz.underlying140 Tryz.type140) (gG (gF Tryz.underlying141 Tryz.type141) (gF Tryz.underlying142 Tryz.type142)))) (gG (gG (gF Tryz.underlying143 Tryz.type143) (gF Tryz.underlying144 Tryz.type144)) (gG (gF Tryz.underlying145 Tryz.type145) (gG (gF Tryz.underlying146 Tryz.type146) (gF Tryz.underlying147 Tryz.type147))))) (gG (gG (gG (gF Tryz.underlying148 Tryz.type148) (gF Tryz.underlying149 Tryz.type149)) (gG (gF Tryz.underlying150 Tryz.type150) (gG (gF Tryz.underlying151 Tryz.type151) (gF Tryz.underlying152 Tryz.type152)))) (gG (gG (gF Tryz.underlying153 Tryz.type153) (gG (gF Tryz.underlying154 Tryz.type154) (gF Tryz.underlying155 Tryz.type155))) (gG (gF Tryz.underlying156 Tryz.type156) (gG (gF Tryz.underlying157 Tryz.type157) (gF Tryz.underlying158 Tryz.type158)))))) (gG (gG (gG (gG (gF Tryz.underlying159 Tryz.type159) (gF Tryz.underlying160 Tryz.type160)) (gG (gF Tryz.underlying161 Tryz.type161) (gG (gF Tryz.underlying162 Tryz.type162) (gF Tryz.underlying163 Tryz.type163)))) (gG (gG (gF Tryz.underlying164 Tryz.type164) (gG (gF Tryz.underlying165 Tryz.type165) (gF Tryz.underlying166 Tryz.type166))) (gG (gF Tryz.underlying167 Tryz.type167) (gG (gF Tryz.underlying168 Tryz.type168) (gF Tryz.underlying169 Tryz.type169))))) (gG (gG (gG (gF Tryz.underlying170 Tryz.type170) (gF Tryz.underlying171 Tryz.type171)) (gG (gF Tryz.underlying172 Tryz.type172) (gG (gF Tryz.underlying173 Tryz.type173) (gF Tryz.underlying174 Tryz.type174)))) (gG (gG (gF Tryz.underlying175 Tryz.type175) (gG (gF Tryz.underlying176 Tryz.type176) (gF Tryz.underlying177 Tryz.type177))) (gG (gF Tryz.underlying178 Tryz.type178) (gG (gF Tryz.underlying179 Tryz.type179) (gF Tryz.underlying180 Tryz.type180)))))))))

noncomputable instance:eM Tryz.prog:=⟨zG,LZ⟩
end Go.Sx
end
section
namespace Go.Sx
open Go.RowKit
section
section
variable {P:Program} {ops:Array Oper} {Q:Exit->Act->World->Prop}
def Mz:Exit->Act->World->Prop:=fun _ _ _=>False
theorem Og:¬LetsOut Mz:=fun⟨_,_,h⟩=>h
theorem If {o:Oper} {a:Act} {w:World} {K:Act->World->Prop} (h:o.wp P a w K Mz):o.wp P a w K Q:=by
 unfold Oper.wp at *
 generalize (execOp a.eval o).run P w=r at *
 cases r with
 | ok n w' =>
  cases n<;>simp only[Oper.upon]at h ⊢ <;> first
   |exact h
   |exact Calls.mono h (fun e w'' he=>by cases e<;>first|exact he|exact absurd he Og|exact he.elim)
 |halt x w'=>cases x<;>simp only[Oper.upon]at h ⊢ <;> first|exact h|exact h.elim
def Qe (a a':Act) (d:Option Tmp):Prop:=∃u ds,a'=({a with defers:=ds}:Act).put d u
theorem Ru {o:Oper} {a:Act} {w:World} {K:Act->World->Prop} (h:o.wp P a w K Mz):o.wp P a w (fun a' w'=>K a' w'∧Qe a a' o.dst) Mz:=by
 unfold Oper.wp at *
 generalize (execOp a.eval o).run P w=r at *
 cases r with
 | ok n w' =>
  cases n<;>simp only[Oper.upon]at h ⊢
  case value v=>exact⟨h,v,a.defers,rfl⟩
  case skip=>exact⟨h,undef,a.defers,rfl⟩
  case defer d=>exact⟨h,undef,d::a.defers,rfl⟩
  case enter f args=>
   refine Calls.mono h fun e w'' he=> ?_
   cases e with
   |returned v=>exact⟨he,v,a.defers,rfl⟩
   |panicked c=>exact he
   |outgrown=>exact he
  case row row args=>exact Rows.mono h fun v w'' he=>⟨he,v,a.defers,rfl⟩
 |halt x w'=>cases x<;>simp only[Oper.upon]at h ⊢ <;> exact h
theorem LB {o:Oper} {a:Act} {w:World} {K:Act->World->Prop} (h:o.wp P a w K Mz):∃a' w',K a' w':=by
 unfold Oper.wp at *
 generalize (execOp a.eval o).run P w=r at *
 cases r with
 | ok n w' =>
  cases n<;>simp only[Oper.upon]at h
  case value v=>exact⟨_,_,h⟩
  case skip=>exact⟨_,_,h⟩
  case defer d=>exact⟨_,_,h⟩
  case enter f args=>
   obtain⟨e,w'',fr,he,_⟩:=h []
   cases e with
   |returned v=>exact⟨_,_,he⟩
   |panicked c=>exact he.elim
   |outgrown=>exact absurd he Og
  case row row args=>
   obtain⟨v,w'',he,_⟩:=h default []
   exact⟨_,_,he⟩
 |halt x w'=>cases x<;>simp only[Oper.upon]at h<;>exact h.elim
theorem Oi {o:Oper} {a:Act} {w:World} {K:Act->World->Prop} {d:Option Tmp} {v:Value} (hs:∀cs b,o.op ≠ .select cs b) (h1:∀t,d=some t->t∉o.looksAt ops) (h2:∀t,d=some t->o.dst≠some t)
  (h:o.wp P a w K Mz):o.wp P (a.put d v) w (fun a' w'=>∃a1,K a1 w'∧a'=a1.put d v) Mz:=by
 unfold Oper.wp at *
 rw[execOp_put (ops:=ops) o hs a d v h1]
 have hd:(a.put d v).defers=a.defers:=by cases d<;>rfl
 generalize (execOp a.eval o).run P w=r at *
 cases r with
 | ok n w' =>
  cases n<;>simp only[Oper.upon]at h ⊢
  case value u=>exact⟨_,h,Act.put_comm a v u h2⟩
  case skip=>exact⟨_,h,Act.put_comm a v undef h2⟩
  case defer e=>exact⟨_,h,by rw[Act.put_defers,Act.put_comm _ v undef h2]⟩
  case enter f args=>
   refine Calls.mono h fun e w'' he=> ?_
   cases e with
   |returned u=>exact⟨_,he,Act.put_comm a v u h2⟩
   |panicked c=>exact he
   |outgrown=>exact he
  case row row args=>exact Rows.mono h fun u w'' he=>⟨_,he,Act.put_comm a v u h2⟩
 |halt x w'=>cases x<;>simp only[Oper.upon]at h ⊢ <;> exact h
theorem oP {o:Oper} {a:Act} {w:World} {K K':Act->World->Prop} (hk:∀a w,K a w->K' a w) (h:o.wp P a w K Mz):o.wp P a w K' Mz:=Oper.wp_mono hk h
def Ld (P:Program) (A:Nat->Nat->Bool) (i:Nat) (o:Oper) (a:Act) (w:World) (H:List (Nat×World)) (v:Value) (B:World->Prop):Prop:=
 B w∧(∀l∈H,A i l.1=false->B l.2)∧∀w',B w'->(execOp a.eval o).run P w' = .ok (.value v) w'
def RW (P:Program) (ops:Array Oper) (Q:Exit->Act->World->Prop) (A:Nat->Nat->Bool) (loud:Nat->Bool) (k0:Nat):List Nat->Act->World->List (Nat×World)->List (Nat×(World->Prop))->Prop
 | [],a,w,_,_=>Q .normal a w
 | i :: rest, a, w, H, Bs =>
  match ops[i]? with
  |none=>False
  | some o =>
   if Region.wanted o (yielded ops a.tmps)then
    (k0<=i∧(o.wp P a w (fun a' w'=>RW P ops Q A loud k0 rest a' w' H Bs) Q∨o.rnd P a w (fun a' w'=>RW P ops Q A loud k0 rest a' w' H Bs)))∨
    (i<k0∧loud i=false∧∃v B,Ld P A i o a w H v B∧RW P ops Q A loud k0 rest (a.put o.dst v) w H ((i,B)::Bs))∨
    (i<k0∧loud i=true∧o.wp P a w (fun a' w'=>(∀b∈Bs,A i b.1=false->b.2 w')∧RW P ops Q A loud k0 rest a' w' ((i,w)::H) Bs) Mz)
   else RW P ops Q A loud k0 rest (a.put o.dst undef) w H Bs
variable {A:Nat->Nat->Bool} {loud:Nat->Bool} {k0:Nat}
theorem SH:∀(L:List Nat) (a:Act) (w:World) (H:List (Nat×World)) (Bs Bs':List (Nat×(World->Prop))),(∀b∈Bs',b∈Bs)->RW P ops Q A loud k0 L a w H Bs->RW P ops Q A loud k0 L a w H Bs':=by
 intro L
 induction L with
 |nil=>intro a w H Bs Bs' _ h;exact h
 | cons i L ih =>
  intro a w H Bs Bs' hb h
  simp only[RW]at h ⊢
  cases ho:ops[i]? with
  |none=>simp[ho]at h
  | some o =>
   simp only[ho]at h ⊢
   split
   ·rename_i hw
    rw[if_pos hw]at h
    rcases h with⟨h1,h2⟩|⟨h1,h2,v,B,h3,h4⟩|⟨h1,h2,h3⟩
    ·refine .inl ⟨h1,?_⟩
     rcases h2 with h2|h2
     ·exact .inl (Oper.wp_mono (fun a w h=>ih a w H Bs Bs' hb h) h2)
     ·exact .inr (Oper.rnd_mono (fun a w h=>ih a w H Bs Bs' hb h) h2)
    ·exact .inr (.inl ⟨h1,h2,v,B,h3,ih _ _ _ _ _ (fun b hm=>by
      rcases List.mem_cons.1 hm with rfl|hm
      ·exact List.mem_cons_self
      ·exact List.mem_cons_of_mem _ (hb b hm)) h4⟩)
    ·exact .inr (.inr ⟨h1,h2,oP (fun a w h=>⟨fun b hm=>h.1 b (hb b hm),ih a w _ Bs Bs' hb h.2⟩) h3⟩)
   ·rename_i hw
    rw[if_neg hw]at h
    exact ih _ _ _ _ _ hb h
structure I_ (ops:Array Oper) (A:Nat->Nat->Bool) (loud:Nat->Bool) (x i:Nat):Prop where
 na:A i x=false
 nb:A x i=false
 apart:∀ox oi,ops[x]? = some ox->ops[i]? = some oi->ox.apart ops oi=true
 one:loud x=false∨loud i=false
theorem Jp {a a':Act} {o:Oper} {d:Option Tmp} (hs:∀cs b,o.op ≠ .select cs b) (h:∀t,d=some t->t∉o.looksAt ops) (hl:Qe a a' d):execOp a'.eval o=execOp a.eval o∧Region.wanted o (yielded ops a'.tmps)=Region.wanted o (yielded ops a.tmps):=by
 obtain⟨u,ds,rfl⟩:=hl
 refine⟨(execOp_put (ops:=ops) o hs {a with defers:=ds} d u h).trans rfl,wanted_put o {a with defers:=ds} d u h⟩
theorem Ld.of_exec {i:Nat} {o:Oper} {a a':Act} {w:World} {H:List (Nat×World)} {v:Value} {B:World->Prop} (h:Ld P A i o a w H v B) (e:execOp a'.eval o=execOp a.eval o):Ld P A i o a' w H v B:=by
 obtain⟨h1,h2,h3⟩:=h
 exact⟨h1,h2,fun w' hw=>by rw[e];exact h3 w' hw⟩
theorem Eu (hsel:∀(i:Nat) (o:Oper),ops[i]? = some o->∀cs b,o.op ≠ .select cs b) {i:Nat} {o:Oper} {L2:List Nat} (hi:ops[i]? = some o) (hik:i<k0) (hli:loud i=false):
  ∀(L1:List Nat) (a:Act) (w:World) (H:List (Nat×World)) (Bs:List (Nat×(World->Prop))),(∀x∈L1,I_ ops A loud x i∧x<k0)->RW P ops Q A loud k0 (L1++i::L2) a w H Bs->
   (Region.wanted o (yielded ops a.tmps)=false∧RW P ops Q A loud k0 (L1++L2) (a.put o.dst undef) w H Bs)∨
   (Region.wanted o (yielded ops a.tmps)=true∧∃v B,Ld P A i o a w H v B∧RW P ops Q A loud k0 (L1++L2) (a.put o.dst v) w H Bs):=by
 intro L1
 induction L1 with
 | nil =>
  intro a w H Bs _ h
  simp only[List.nil_append,RW,hi]at h
  by_cases hw:Region.wanted o (yielded ops a.tmps)=true
  ·rw[if_pos hw]at h
   rcases h with⟨h,_⟩|⟨_,_,v,B,hv,h⟩|⟨_,h,_⟩
   ·omega
   ·exact .inr ⟨hw,v,B,hv,SH _ _ _ _ _ _ (fun b hb=>List.mem_cons_of_mem _ hb) h⟩
   ·rw[hli]at h;cases h
  ·rw[if_neg hw]at h
   exact .inl ⟨by simpa using hw,h⟩
 | cons x L1 ih =>
  intro a w H Bs hx h
  obtain⟨hxi,hxk⟩:=hx x List.mem_cons_self
  have hxs:∀y∈L1,I_ ops A loud y i∧y<k0:=fun y hy=>hx y (List.mem_cons_of_mem _ hy)
  simp only[List.cons_append,RW]at h ⊢
  cases hox:ops[x]? with
  |none=>simp[hox]at h
  | some ox =>
   simp only[hox]at h ⊢
   obtain⟨p1,p2,p3⟩:=Oper.apart_spec (hxi.apart ox o hox hi)
   have hso:=hsel i o hi
   have hsx:=hsel x ox hox
   have q2:∀(d:Tmp),o.dst=some d->ox.dst≠some d:=fun d hd he=>p2 d he hd
   have ex:∀(b:Act) u,execOp (b.put o.dst u).eval ox=execOp b.eval ox:=fun b u=>execOp_put (ops:=ops) ox hsx b o.dst u p3
   have wx:∀(b:Act) u,Region.wanted ox (yielded ops (b.put o.dst u).tmps)=Region.wanted ox (yielded ops b.tmps):=fun b u=>wanted_put ox b o.dst u p3
   have ei:∀(b:Act) u,execOp (b.put ox.dst u).eval o=execOp b.eval o:=fun b u=>execOp_put (ops:=ops) o hso b ox.dst u p1
   have wi:∀(b:Act) u,Region.wanted o (yielded ops (b.put ox.dst u).tmps)=Region.wanted o (yielded ops b.tmps):=fun b u=>wanted_put o b ox.dst u p1
   by_cases hw:Region.wanted ox (yielded ops a.tmps)=true
   ·rw[if_pos hw]at h
    rcases h with⟨h,_⟩|⟨_,hlx,vx,Bx,hvx,h⟩|⟨_,hlx,h⟩
    ·omega
    ·rcases ih _ w H _ hxs h with⟨h1,h2⟩|⟨h1,v,B,h2,h3⟩
     ·rw[wi]at h1
      refine .inl ⟨h1,?_⟩
      rw[if_pos (by rw[wx];exact hw)]
      exact .inr (.inl ⟨hxk,hlx,vx,Bx,hvx.of_exec (ex a undef),by rw[<-Act.put_comm a vx undef p2];exact h2⟩)
     ·rw[wi]at h1
      refine .inr ⟨h1,v,B,h2.of_exec (ei a vx).symm,?_⟩
      rw[if_pos (by rw[wx];exact hw)]
      exact .inr (.inl ⟨hxk,hlx,vx,Bx,hvx.of_exec (ex a v),by rw[<-Act.put_comm a vx v p2];exact h3⟩)
    ·have h':=Ru h
     obtain⟨a1,w1,⟨⟨_,hr1⟩,hl1⟩⟩:=LB h'
     have le:=fun {a':Act} (hl:Qe a a' ox.dst)=>Jp (ops:=ops) hso p1 hl
     rcases ih a1 w1 _ _ hxs hr1 with⟨h1,_⟩|⟨h1,v,B,⟨hb1,hb2,hb3⟩,_⟩
     ·have hwi:Region.wanted o (yielded ops a.tmps)=false:=by rw[<-(le hl1).2];exact h1
      refine .inl ⟨hwi,?_⟩
      rw[if_pos (by rw[wx];exact hw)]
      refine .inr (.inr ⟨hxk,hlx,?_⟩)
      refine oP ?_ (Oi (ops:=ops) (d:=o.dst) (v:=undef) hsx p3 q2 h')
      rintro a2 w2 ⟨a3,⟨⟨he,hr⟩,hl⟩,rfl⟩
      refine⟨he,?_⟩
      rcases ih a3 w2 _ _ hxs hr with⟨_,h5⟩|⟨h4,_⟩
      ·exact h5
      ·rw[(le hl).2,hwi]at h4;cases h4
     ·have hwi:Region.wanted o (yielded ops a.tmps)=true:=by rw[<-(le hl1).2];exact h1
      have hbw:B w:=hb2 (x,w) List.mem_cons_self hxi.na
      have hrun:(execOp a.eval o).run P w = .ok (.value v) w:=by rw[<-(le hl1).1];exact hb3 w hbw
      refine .inr ⟨hwi,v,B,⟨hbw,fun l hl=>hb2 l (List.mem_cons_of_mem _ hl),fun w' hw'=>by rw[<-(le hl1).1];exact hb3 w' hw'⟩,?_⟩
      rw[if_pos (by rw[wx];exact hw)]
      refine .inr (.inr ⟨hxk,hlx,?_⟩)
      refine oP ?_ (Oi (ops:=ops) (d:=o.dst) (v:=v) hsx p3 q2 h')
      rintro a2 w2 ⟨a3,⟨⟨he,hr⟩,hl⟩,rfl⟩
      refine⟨he,?_⟩
      rcases ih a3 w2 _ _ hxs hr with⟨h4,_⟩|⟨_,v',B',⟨_,hb2',hb3'⟩,h5⟩
      ·rw[(le hl).2,hwi]at h4;cases h4
      ·have hrun':=hb3' w (hb2' (x,w) List.mem_cons_self hxi.na)
       rw[(le hl).1,hrun]at hrun'
       cases hrun'
       exact h5
   ·rw[if_neg hw]at h
    have hw':Region.wanted ox (yielded ops a.tmps)=false:=by simpa using hw
    rcases ih _ w H _ hxs h with⟨h1,h2⟩|⟨h1,v,B,h2,h3⟩
    ·rw[wi]at h1
     refine .inl ⟨h1,?_⟩
     rw[if_neg (by rw[wx,hw'];simp),<-Act.put_comm a undef undef p2]
     exact h2
    ·rw[wi]at h1
     refine .inr ⟨h1,v,B,h2.of_exec (ei a undef).symm,?_⟩
     rw[if_neg (by rw[wx,hw'];simp),<-Act.put_comm a undef v p2]
     exact h3
theorem Ff (hsel:∀(i:Nat) (o:Oper),ops[i]? = some o->∀cs b,o.op ≠ .select cs b) {i:Nat} {o:Oper} {L2:List Nat} (hi:ops[i]? = some o) (hik:i<k0) (hli:loud i=true):
  ∀(L1:List Nat) (a:Act) (w:World) (H:List (Nat×World)) (Bs:List (Nat×(World->Prop))),(∀x∈L1,I_ ops A loud x i∧x<k0)->RW P ops Q A loud k0 (L1++i::L2) a w H Bs->
   (Region.wanted o (yielded ops a.tmps)=false∧RW P ops Q A loud k0 (L1++L2) (a.put o.dst undef) w H Bs)∨
   (Region.wanted o (yielded ops a.tmps)=true∧o.wp P a w (fun a' w'=>(∀b∈Bs,A i b.1=false->b.2 w')∧RW P ops Q A loud k0 (L1++L2) a' w' ((i,w)::H) Bs) Mz):=by
 intro L1
 induction L1 with
 | nil =>
  intro a w H Bs _ h
  simp only[List.nil_append,RW,hi]at h
  by_cases hw:Region.wanted o (yielded ops a.tmps)=true
  ·rw[if_pos hw]at h
   rcases h with⟨h,_⟩|⟨_,h,_⟩|⟨_,_,h⟩
   ·omega
   ·rw[hli]at h;cases h
   ·exact .inr ⟨hw,h⟩
  ·rw[if_neg hw]at h
   exact .inl ⟨by simpa using hw,h⟩
 | cons x L1 ih =>
  intro a w H Bs hx h
  obtain⟨hxi,hxk⟩:=hx x List.mem_cons_self
  have hxs:∀y∈L1,I_ ops A loud y i∧y<k0:=fun y hy=>hx y (List.mem_cons_of_mem _ hy)
  have hlx:loud x=false:=hxi.one.resolve_right (by rw[hli];simp)
  simp only[List.cons_append,RW]at h ⊢
  cases hox:ops[x]? with
  |none=>simp[hox]at h
  | some ox =>
   simp only[hox]at h ⊢
   obtain⟨p1,p2,p3⟩:=Oper.apart_spec (hxi.apart ox o hox hi)
   have hso:=hsel i o hi
   have hsx:=hsel x ox hox
   have ex:∀(b:Act) u,execOp (b.put o.dst u).eval ox=execOp b.eval ox:=fun b u=>execOp_put (ops:=ops) ox hsx b o.dst u p3
   have wx:∀(b:Act) u,Region.wanted ox (yielded ops (b.put o.dst u).tmps)=Region.wanted ox (yielded ops b.tmps):=fun b u=>wanted_put ox b o.dst u p3
   have wi:∀(b:Act) u,Region.wanted o (yielded ops (b.put ox.dst u).tmps)=Region.wanted o (yielded ops b.tmps):=fun b u=>wanted_put o b ox.dst u p1
   have lx:=fun {a':Act} (hl:Qe a a' o.dst)=>Jp (ops:=ops) hsx p3 hl
   have back:∀(u:Value) (Z:Act->World->Prop),o.wp P (a.put ox.dst u) w Z Mz->o.wp P a w (fun a' w'=>Qe a a' o.dst∧Z (a'.put ox.dst u) w') Mz:=by
    intro u Z hh
    unfold Oper.wp at *
    rw[execOp_put (ops:=ops) o hso a ox.dst u p1]at hh
    generalize (execOp a.eval o).run P w=r at *
    cases r with
    | ok n w' =>
     cases n<;>simp only[Oper.upon]at hh ⊢
     case value v=>exact⟨⟨v,a.defers,rfl⟩,by rw[<-Act.put_comm a u v p2];exact hh⟩
     case skip=>exact⟨⟨undef,a.defers,rfl⟩,by rw[<-Act.put_comm a u undef p2];exact hh⟩
     case defer e=>exact⟨⟨undef,e::a.defers,rfl⟩,by rw[<-Act.put_comm _ u undef p2,<-Act.put_defers];exact hh⟩
     case enter f args=>
      refine Calls.mono hh fun e w'' he=> ?_
      cases e with
      |returned v=>exact⟨⟨v,a.defers,rfl⟩,by rw[<-Act.put_comm a u v p2];exact he⟩
      |panicked c=>exact he
      |outgrown=>exact he
     case row row args=>exact Rows.mono hh fun v w'' he=>⟨⟨v,a.defers,rfl⟩,by rw[<-Act.put_comm a u v p2];exact he⟩
    |halt y w'=>cases y<;>simp only[Oper.upon]at hh ⊢ <;> exact hh
   by_cases hw:Region.wanted ox (yielded ops a.tmps)=true
   ·rw[if_pos hw]at h
    rcases h with⟨h,_⟩|⟨_,_,vx,Bx,hvx,h⟩|⟨_,h,_⟩
    ·omega
    ·rcases ih _ w H _ hxs h with⟨h1,h2⟩|⟨h1,h2⟩
     ·rw[wi]at h1
      refine .inl ⟨h1,?_⟩
      rw[if_pos (by rw[wx];exact hw)]
      exact .inr (.inl ⟨hxk,hlx,vx,Bx,hvx.of_exec (ex a undef),by rw[<-Act.put_comm a vx undef p2];exact h2⟩)
     ·rw[wi]at h1
      refine .inr ⟨h1,oP ?_ (back vx _ h2)⟩
      rintro a1 w1 ⟨hl,he,hr⟩
      refine⟨fun b hb=>he b (List.mem_cons_of_mem _ hb),?_⟩
      rw[if_pos (by rw[(lx hl).2];exact hw)]
      refine .inr (.inl ⟨hxk,hlx,vx,Bx,?_,hr⟩)
      obtain⟨hb1,hb2,hb3⟩:=hvx
      refine⟨he (x,Bx) List.mem_cons_self hxi.na,fun l hl' hA=> ?_,fun w' hw'=>by rw[(lx hl).1];exact hb3 w' hw'⟩
      rcases List.mem_cons.1 hl' with rfl|hl'
      ·exact hb1
      ·exact hb2 l hl' hA
    ·rw[hlx]at h;cases h
   ·rw[if_neg hw]at h
    have hw':Region.wanted ox (yielded ops a.tmps)=false:=by simpa using hw
    rcases ih _ w H _ hxs h with⟨h1,h2⟩|⟨h1,h2⟩
    ·rw[wi]at h1
     refine .inl ⟨h1,?_⟩
     rw[if_neg (by rw[wx,hw'];simp),<-Act.put_comm a undef undef p2]
     exact h2
    ·rw[wi]at h1
     refine .inr ⟨h1,oP ?_ (back undef _ h2)⟩
     rintro a1 w1 ⟨hl,he,hr⟩
     refine⟨he,?_⟩
     rw[if_neg (by rw[(lx hl).2,hw'];simp)]
     exact hr
end
def uW (o:Oper):List Nat:=(o.after.toList.filter (Region.binds .any)).map (·.on)
def pI (l:List Oper):List Nat:=l.foldl (fun acc o=>acc++[(uW o).foldl (fun s e=>s ||| 2^e ||| acc.getD e 0) 0]) []
def before (m:List Nat) (i j:Nat):Bool:=(m.getD i 0).testBit j
def fK:Op->Bool
 | .move _ | .assign _ | .pick .. | .build .. | .load .. | .binOp .. | .unOp .. | .convert .. | .fieldAddr .. | .field .. | .indexAddr .. | .index .. | .lookup .. | .extract .. | .slice .. | .makeFunc .. | .nilCheck .. => false
 | .call ⟨.builtin .len,_,_⟩ | .call ⟨.builtin .max,_,_⟩ | .call ⟨.builtin .min,_,_⟩ | .call ⟨.builtin .cap,_,_⟩=>false
 |_=>true
def Cb:Op->Bool
 | .select .. => true
 |_=>false
def eN (l:List Oper) (i:Nat):Bool:=((l[i]?).map fun o=>fK o.op).getD false
def chk (l:List Oper) (m:List Nat) (k0:Nat):Bool:=
  (List.range l.length).all fun i=>match l[i]? with
    |none=>false
    | some o =>
      (uW o).all (fun e=>Nat.blt e i&&before m i e&&(List.range i).all (fun k=> !before m e k||before m i k)) &&
      (List.range l.length).all (fun k=> !before m i k||(Nat.blt k i&&(uW o).any (fun e=>Nat.beq e k||before m e k))) &&
      !Cb o.op &&
      (if Nat.ble k0 i then(List.range i).all (fun x=>before m i x)
       else(List.range i).all (fun x=>before m i x||(match l[x]? with|none=>false|some ox=>ox.apart l.toArray o&&(!fK ox.op || !fK o.op))))
end
section
structure Chk (l:List Oper) (m:List Nat) (k0:Nat):Prop where
 edge:∀(i:Nat) (o:Oper),l[i]? = some o->∀e∈uW o,e<i∧before m i e=true
 trans:∀(i:Nat) (o:Oper),l[i]? = some o->∀k,before m i k=true->k<l.length->k<i∧∃e∈uW o,e=k∨before m e k=true
 sel:∀(i:Nat) (o:Oper),l[i]? = some o->∀cs b,o.op ≠ .select cs b
 tail:∀i x,i<l.length->k0<=i->x<i->before m i x=true
 ind:∀(i x:Nat) (oi ox:Oper),l[i]? = some oi->l[x]? = some ox->i<k0->x<i->before m i x=false->ox.apart l.toArray oi=true∧(fK ox.op=false∨fK oi.op=false)
theorem bN {α:Type} {l:List α} {i:Nat} {x:α} (h:l[i]? = some x):i<l.length:=by
 rcases Nat.lt_or_ge i l.length with h'|h'
 ·exact h'
 ·rw[List.getElem?_eq_none h']at h;cases h
theorem QQ {l:List Oper} {m:List Nat} {k0:Nat} (h:chk l m k0=true):Chk l m k0:=by
  have key:∀(i:Nat) (o:Oper),l[i]? = some o->
      ((uW o).all (fun e=>Nat.blt e i&&before m i e&&(List.range i).all (fun k=> !before m e k||before m i k))=true)∧
      ((List.range l.length).all (fun k=> !before m i k||(Nat.blt k i&&(uW o).any (fun e=>Nat.beq e k||before m e k)))=true)∧Cb o.op=false∧
      ((if Nat.ble k0 i then(List.range i).all (fun x=>before m i x)
       else(List.range i).all (fun x=>before m i x||(match l[x]? with|none=>false|some ox=>ox.apart l.toArray o&&(!fK ox.op || !fK o.op))))=true):=by
    intro i o ho
    have:=List.all_eq_true.1 h i (List.mem_range.2 (bN ho))
    simp only[ho,Bool.and_eq_true,Bool.not_eq_true']at this
    exact⟨this.1.1.1,this.1.1.2,this.1.2,this.2⟩
  refine⟨?_,?_,?_,?_,?_⟩
  · intro i o ho e he
    have:=List.all_eq_true.1 (key i o ho).1 e he
    simp only[Bool.and_eq_true,Nat.blt_eq]at this
    exact⟨this.1.1,this.1.2⟩
  · intro i o ho k hk hlt
    have:=List.all_eq_true.1 (key i o ho).2.1 k (List.mem_range.2 hlt)
    simp only[hk,Bool.not_true,Bool.false_or,Bool.and_eq_true,Nat.blt_eq,List.any_eq_true,Bool.or_eq_true]at this
    obtain⟨h1,e,he,h2⟩:=this
    refine⟨h1,e,he,?_⟩
    rcases h2 with h2|h2
    · exact .inl (Nat.eq_of_beq_eq_true h2)
    · exact .inr h2
  · intro i o ho cs b e
    have:=(key i o ho).2.2.1
    rw[e]at this
    cases this
  · intro i x hi hk hx
    obtain⟨o,ho⟩:∃o,l[i]? = some o:=⟨_,List.getElem?_eq_getElem hi⟩
    have:=(key i o ho).2.2.2
    rw[if_pos (by simpa using hk)]at this
    exact List.all_eq_true.1 this x (List.mem_range.2 hx)
  · intro i x oi ox hi hx hk hlt hb
    have:=(key i oi hi).2.2.2
    rw[if_neg (by simpa using hk)]at this
    have:=List.all_eq_true.1 this x (List.mem_range.2 hlt)
    simp only[hb,Bool.false_or,hx,Bool.and_eq_true,Bool.or_eq_true,Bool.not_eq_true']at this
    exact this
section
variable {P:Program} {Q:Exit->Act->World->Prop} {l:List Oper} {m:List Nat} {k0:Nat}
theorem RW.any (hc:Chk l m k0):∀(fuel:Nat) (L:List Nat) (listed:Array Bool) (a:Act) (w:World) (H:List (Nat×World)) (Bs:List (Nat×(World->Prop))),
  L.length<=fuel->listed.size=l.length->L.Pairwise (· < ·)->(∀i,i∈L↔i<l.length∧listed.getD i true=false)->
  (∀j k,listed.getD j false=true->before m j k=true->k<l.length->listed.getD k false=true)->
  RW P l.toArray Q (before m) (eN l) k0 L a w H Bs->wpAny P .any l.toArray Q fuel listed a w:=by
 intro fuel
 induction fuel with
 |zero=>
  intro L listed a w H Bs hlen hsz hsort hmem hcl h
  have hL:L=[]:=List.eq_nil_of_length_eq_zero (by omega)
  subst hL
  refine⟨?_,h⟩
  rw[List.eq_nil_iff_forall_not_mem]
  intro i hi
  obtain⟨h0,o,ho,_⟩:=mem_ready.1 hi
  have:i<l.length:=by have:=(Array.getElem?_eq_some_iff.1 ho).1;simpa using this
  have:=(hmem i).2 ⟨this,h0⟩
  simp at this
 | succ fuel ih =>
  intro L listed a w H Bs hlen hsz hsort hmem hcl h
  refine⟨fun hr=> ?_,fun i hi=> ?_⟩
  ·cases L with
   |nil=>exact h
   | cons i L =>
    exfalso
    obtain⟨hlt,h0⟩:=(hmem i).1 List.mem_cons_self
    obtain⟨o,ho⟩:∃o,l[i]? = some o:=⟨_,List.getElem?_eq_getElem hlt⟩
    have:i∈Region.ready .any l.toArray listed:=by
     refine mem_ready.2 ⟨h0,o,by simpa using ho,fun e he hb=> ?_⟩
     have hee:e.on∈uW o:=List.mem_map.2 ⟨e,List.mem_filter.2 ⟨by simpa using he,hb⟩,rfl⟩
     have hei:=(hc.edge i o ho e.on hee).1
     cases hg:listed.getD e.on true with
     |false=>
      have hm:=(hmem e.on).2 ⟨by omega,hg⟩
      rcases List.mem_cons.1 hm with e1|e1
      ·omega
      ·have:=(List.pairwise_cons.1 hsort).1 _ e1;omega
     |true=>
      have:e.on<listed.size:=by omega
      simp[this]at hg ⊢
      exact hg
    rw[hr]at this
    simp at this
  ·obtain⟨h0,o,ho',hedge⟩:=mem_ready.1 hi
   have ho:l[i]? = some o:=by simpa using ho'
   have hlt:i<l.length:=bN ho
   have hiL:i∈L:=(hmem i).2 ⟨hlt,h0⟩
   obtain⟨L1,L2,rfl⟩:=List.append_of_mem hiL
   have hs:=List.pairwise_append.1 hsort
   have hL1:∀x∈L1,x<i:=fun x hx=>hs.2.2 x hx i List.mem_cons_self
   have hL2:∀x∈L2,i<x:=fun x hx=>(List.pairwise_cons.1 hs.2.1).1 x hx
   have hanc:∀k,before m i k=true->k<l.length->listed.getD k false=true:=by
    intro k hk hkl
    obtain⟨_,e,he,hek⟩:=hc.trans i o ho k hk hkl
    obtain⟨ed,hed,rfl⟩:=List.mem_map.1 he
    obtain⟨hed1,hed2⟩:=List.mem_filter.1 hed
    have hl:=hedge ed (by simpa using hed1) hed2
    rcases hek with rfl|hek
    ·exact hl
    ·exact hcl _ _ hl hek hkl
   have hno:∀x∈L1,before m i x=false:=by
    intro x hx
    cases hb:before m i x with
    |false=>rfl
    |true=>
     have hxl:=((hmem x).1 (by simp[hx]))
     have:=hanc x hb hxl.1
     have hxs:x<listed.size:=by omega
     simp[hxs]at this hxl
     rw[this]at hxl
     simp at hxl
   -- the rest
   have next:∀a' w' H' Bs',RW P l.toArray Q (before m) (eN l) k0 (L1++L2) a' w' H' Bs'->wpAny P .any l.toArray Q fuel (listed.setIfInBounds i true) a' w':=by
    intro a' w' H' Bs' hr
    refine ih (L1++L2) _ a' w' H' Bs' ?_ (by simp[hsz]) ?_ ?_ ?_ hr
    ·simp at hlen ⊢;omega
    ·exact List.pairwise_append.2 ⟨hs.1,(List.pairwise_cons.1 hs.2.1).2,fun x hx y hy=>by have:=hL1 x hx;have:=hL2 y hy;omega⟩
    ·intro j
     by_cases e:i=j
     ·subst e
      constructor
      ·intro hj
       rcases List.mem_append.1 hj with hj|hj
       ·have:=hL1 i hj;omega
       ·have:=hL2 i hj;omega
      ·rintro⟨_,hj⟩
       simp[hsz,hlt]at hj
     ·rw[getD_set_ne true e]
      have:=hmem j
      simp only[List.mem_append,List.mem_cons]at this ⊢
      constructor
      ·intro hj;exact this.1 (by rcases hj with hj|hj;exact .inl hj;exact .inr (.inr hj))
      ·intro hj
       rcases this.2 hj with hj|rfl|hj
       ·exact .inl hj
       ·exact absurd rfl e
       ·exact .inr hj
    ·intro j k hj hjk hk
     by_cases e:i=j
     ·subst e;exact getD_set_true (hanc k hjk hk)
     ·rw[getD_set_ne false e]at hj
      exact getD_set_true (hcl j k hj hjk hk)
   have hoa:l.toArray[i]? = some o:=ho'
   by_cases hk:k0<=i
   ·have hL1e:L1=[]:=by
     cases L1 with
     |nil=>rfl
     |cons x L1=>
      have h1:=hno x List.mem_cons_self
      have h2:=hc.tail i x hlt hk (hL1 x List.mem_cons_self)
      rw[h1]at h2;cases h2
    subst hL1e
    simp only[List.nil_append,RW,hoa]at h
    unfold wpOp
    simp only[hoa]
    split
    ·rename_i hw
     rw[if_pos hw]at h
     rcases h with⟨_,h|h⟩|⟨h,_⟩|⟨h,_⟩
     ·exact .inl (Oper.wp_mono (fun a' w' hr=>next a' w' _ _ hr) h)
     ·exact .inr (Oper.rnd_mono (fun a' w' hr=>next a' w' _ _ hr) h)
     ·omega
     ·omega
    ·rename_i hw
     rw[if_neg hw]at h
     exact next _ _ _ _ h
   ·have hik:i<k0:=by omega
    have hind:∀x∈L1,I_ l.toArray (before m) (eN l) x i∧x<k0:=by
     intro x hx
     have hxi:=hL1 x hx
     obtain⟨ox,hox⟩:∃ox,l[x]? = some ox:=⟨_,List.getElem?_eq_getElem (by omega)⟩
     have hi2:=hc.ind i x o ox ho hox hik hxi (hno x hx)
     refine⟨⟨hno x hx,?_,?_,?_⟩,by omega⟩
     ·cases hb:before m x i with
      |false=>rfl
      |true=>have:=(hc.trans x ox hox i hb hlt).1;omega
     ·intro ox' oi' h1 h2
      have e1:ox=ox':=by simpa [hox]using h1
      have e2:o=oi':=by simpa [ho]using h2
      rw[<-e1,<-e2];exact hi2.1
     ·rcases hi2.2 with h1|h1
      ·exact .inl (by simp[eN,hox,h1])
      ·exact .inr (by simp[eN,ho,h1])
    have hsel:∀(i:Nat) (o:Oper),l.toArray[i]? = some o->∀cs b,o.op ≠ .select cs b:=fun i o h=>hc.sel i o (by simpa using h)
    unfold wpOp
    simp only[hoa]
    cases hl:eN l i with
    | false =>
     rcases Eu hsel hoa hik hl L1 a w H Bs hind h with⟨h1,h2⟩|⟨h1,v,B,⟨hb,_,hr⟩,h2⟩
     ·rw[h1];exact next _ _ _ _ h2
     ·rw[h1]
      exact .inl (by simp only[Oper.wp,hr w hb,Oper.upon];exact next _ _ _ _ h2)
    | true =>
     rcases Ff hsel hoa hik hl L1 a w H Bs hind h with⟨h1,h2⟩|⟨h1,h2⟩
     ·rw[h1];exact next _ _ _ _ h2
     ·rw[h1]
      exact .inl (If (oP (fun a' w' hh=>next a' w' _ _ hh.2) h2))
theorem ID {rd:Option Nat} {id:Nat} {a:Act} {w:World} (hd:l.all iS=true) (hm:P.follows .mixedOrders=true) (hc:chk l m k0=true)
  (h:RW P l.toArray Q (before m) (eN l) k0 (List.range l.length) a w.drew [] []):(Code.region id l.toArray true).wpr rd P Q a w:=by
 refine DX hd hm ?_
 refine RW.any (QQ hc) _ (List.range l.length) _ a _ [] [] (by simp) (by simp) List.pairwise_lt_range ?_ ?_ h
 ·intro i
  simp only[List.mem_range]
  constructor
  ·intro hi;exact⟨hi,by simp[hi]⟩
  ·exact fun h=>h.1
 ·intro j k hj
  simp[Array.getElem?_replicate]at hj
  split at hj<;>simp at hj
def Uu (c:Ax):List (Nat×List bX×List bX)->List (Nat×World)->Prop
 | [],[]=>True
 |h::H,x::X=>h.1=x.1∧St c h.2.1 h.2.2 x.2∧Uu c H X
 |_,_=>False
def Ms (c:Ax):List (Nat×List bX×List bX)->List (Nat×(World->Prop))->Prop
 | [],[]=>True
 |b::B,x::X=>x=(b.1,St c b.2.1 b.2.2)∧Ms c B X
 |_,_=>False
def JR (c:Ax) (n:Sz) (σ:Fr) (M L:List bX) (H Bs:List (Nat×List bX×List bX)) (G:Act->World->List (Nat×World)->List (Nat×(World->Prop))->Prop):Prop:=
 ∀a w X Y,GG n σ a->St c M L w->Uu c H X->Ms c Bs Y->G a w X Y
variable {c:Ax} {n:Sz} {σ:Fr} {M L Mx Lx:List bX} {H Bs:List (Nat×List bX×List bX)}
theorem Qc {rd:Option Nat} {id:Nat} (m:List Nat) (k0:Nat) (hm:P.follows .mixedOrders=true) (hc:chk l m k0=true)
  (h:JR c n σ M L [] [] (RW P l.toArray Q (before m) (eN l) k0 (List.range l.length))) (hd:l.all iS=true:=by rfl):J c n σ M L ((Code.region id l.toArray true).wpr rd P Q):=fun a w s t=>
 ID hd hm hc (h a w.drew [] [] s (t.ext ((Below.refl _ _).drew)) trivial trivial)
structure Gd (M L Mx Lx:List bX):Prop where
 hM:bH M Mx
 hL:j_ L Lx
theorem Gd.st {M L Mx Lx:List bX} (h:Gd M L Mx Lx) {w:World} (t:St c M L w):St c Mx Lx w:=t.weak h.hM h.hL
def bG (A:Nat->Bool) (Mx Lx:List bX):List (Nat×List bX×List bX)->Prop
 | []=>True
 |h::H=>(A h.1=true∨Gd h.2.1 h.2.2 Mx Lx)∧bG A Mx Lx H
def Cn (A:Nat->Bool) (M L:List bX):List (Nat×List bX×List bX)->Prop
 | []=>True
 |b::B=>(A b.1=true∨Gd M L b.2.1 b.2.2)∧Cn A M L B
theorem bG.use {A:Nat->Bool} {Mx Lx:List bX}:∀{H:List (Nat×List bX×List bX)} {X:List (Nat×World)},bG A Mx Lx H->Uu c H X->∀x∈X,A x.1=false->St c Mx Lx x.2
 | [],[],_,_,x,hx,_=>by simp at hx
 | [],_::_,_,h,_,_,_=>h.elim
 |_::_,[],_,h,_,_,_=>h.elim
 | h :: H, y :: X, ho, hi, x, hx, hA => by
  rcases List.mem_cons.1 hx with rfl|hx
  ·rcases ho.1 with h1|h1
   ·rw[hi.1,hA]at h1;cases h1
   ·exact h1.st hi.2.1
  ·exact bG.use ho.2 hi.2.2 x hx hA
theorem Cn.use {A:Nat->Bool} {M L:List bX} {w:World} (t:St c M L w):∀{B:List (Nat×List bX×List bX)} {X:List (Nat×(World->Prop))},Cn A M L B->Ms c B X->∀x∈X,A x.1=false->x.2 w
 | [],[],_,_,x,hx,_=>by simp at hx
 | [],_::_,_,h,_,_,_=>h.elim
 |_::_,[],_,h,_,_,_=>h.elim
 | b :: B, y :: X, ho, hi, x, hx, hA => by
  rcases List.mem_cons.1 hx with rfl|hx
  ·rcases ho.1 with h1|h1
   ·rw[hi.1]at hA;rw[h1]at hA;cases hA
   ·rw[hi.1];exact h1.st t
  ·exact Cn.use t ho.2 hi.2 x hx hA
theorem JR.quiet {i:Nat} {rest:List Nat} {d:Nat} {op:Op} {ty:TypeId} {pos:String} {aft:Array Edge} {v:Value} (Mx Lx:List bX)
  (hi:l[i]? = some ⟨some d,op,ty,pos,aft,none⟩) (hk:Nat.blt i k0=true) (hl:fK op=false) (hy:Y P c n σ Mx Lx ⟨some d,op,ty,pos,aft,none⟩ v) (hM:Gd M L Mx Lx) (hH:bG (before m i) Mx Lx H) (hd:Nat.blt d n.sz=true)
  (h:JR c n ((d,v)::σ) M L H ((i,Mx,Lx)::Bs) (RW P l.toArray Q (before m) (eN l) k0 rest)):JR c n σ M L H Bs (RW P l.toArray Q (before m) (eN l) k0 (i::rest)):=fun a w X Y s t hX hY=>by
 have hi':l.toArray[i]? = some ⟨some d,op,ty,pos,aft,none⟩:=by simpa using hi
 simp only[RW,hi']
 rw[if_pos (by simp[Region.wanted])]
 refine .inr (.inl ⟨by simpa [Nat.blt_eq]using hk,by simp[eN,hi,hl],v,St c Mx Lx,⟨hM.st t,hH.use hX,fun w' t'=>hy a w' s t'⟩,h _ w X _ (s.put d v hd) t hX ⟨rfl,hY⟩⟩)
theorem OS {i:Nat} {rest:List Nat} {d:Nat} {op:Op} {ty:TypeId} {pos:String} {aft:Array Edge} {j:Nat} {b:Bool} {v:Value} (Mx Lx:List bX)
  (hi:l[i]? = some ⟨some d,op,ty,pos,aft,some (j,b)⟩) (hk:Nat.blt i k0=true) (hl:fK op=false) (hg:gv l.toArray σ j=some b) (hy:Y P c n σ Mx Lx ⟨some d,op,ty,pos,aft,some (j,b)⟩ v) (hM:Gd M L Mx Lx) (hH:bG (before m i) Mx Lx H) (hd:Nat.blt d n.sz=true)
  (h:JR c n ((d,v)::σ) M L H ((i,Mx,Lx)::Bs) (RW P l.toArray Q (before m) (eN l) k0 rest)):JR c n σ M L H Bs (RW P l.toArray Q (before m) (eN l) k0 (i::rest)):=fun a w X Y s t hX hY=>by
 have hi':l.toArray[i]? = some ⟨some d,op,ty,pos,aft,some (j,b)⟩:=by simpa using hi
 simp only[RW,hi']
 rw[if_pos (by simp[Region.wanted,Be s hg])]
 refine .inr (.inl ⟨by simpa [Nat.blt_eq]using hk,by simp[eN,hi,hl],v,St c Mx Lx,⟨hM.st t,hH.use hX,fun w' t'=>hy a w' s t'⟩,h _ w X _ (s.put d v hd) t hX ⟨rfl,hY⟩⟩)
theorem dA {i:Nat} {rest:List Nat} {d:Nat} {op:Op} {ty:TypeId} {pos:String} {aft:Array Edge} {j:Nat} {b b':Bool}
  (hi:l[i]? = some ⟨some d,op,ty,pos,aft,some (j,b)⟩) (hg:gv l.toArray σ j=some b') (hb:(b'==b)=false) (hd:Nat.blt d n.sz=true)
  (h:JR c n ((d,undef)::σ) M L H Bs (RW P l.toArray Q (before m) (eN l) k0 rest)):JR c n σ M L H Bs (RW P l.toArray Q (before m) (eN l) k0 (i::rest)):=fun a w X Y s t hX hY=>by
 have hi':l.toArray[i]? = some ⟨some d,op,ty,pos,aft,some (j,b)⟩:=by simpa using hi
 simp only[RW,hi']
 rw[if_neg (by simp[Region.wanted,Be s hg,hb])]
 exact h _ w X Y (s.put d undef hd) t hX hY
theorem JR.guard {i dj:Nat} {rest:List Nat} {d:Option Tmp} {op:Op} {ty:TypeId} {pos:String} {aft:Array Edge} {j:Nat} {b' b:Bool}
  (_:l[i]? = some ⟨d,op,ty,pos,aft,some (j,b)⟩) (_:(l[j]?).bind (·.dst)=some dj) (hg:lk σ dj=some (.bool b'))
  (ht:b'=true->JR c n ((dj,.bool true)::σ) M L H Bs (RW P l.toArray Q (before m) (eN l) k0 (i::rest)))
  (hf:b'=false->JR c n ((dj,.bool false)::σ) M L H Bs (RW P l.toArray Q (before m) (eN l) k0 (i::rest))):JR c n σ M L H Bs (RW P l.toArray Q (before m) (eN l) k0 (i::rest)):=by
 cases b'
 ·exact fun a w X Y s t hX hY=>hf rfl a w X Y (s.over (s.slot _ _ hg)) t hX hY
 ·exact fun a w X Y s t hX hY=>ht rfl a w X Y (s.over (s.slot _ _ hg)) t hX hY
theorem Ja {i dj:Nat} {rest:List Nat} {d:Option Tmp} {op:Op} {ty:TypeId} {pos:String} {aft:Array Edge} {j:Nat} {p:Prop} {_:Decidable p} {b:Bool}
  (hi:l[i]? = some ⟨d,op,ty,pos,aft,some (j,b)⟩) (hj:(l[j]?).bind (·.dst)=some dj) (hg:lk σ dj=some (.bool (decide p)))
  (ht:p->JR c n ((dj,.bool true)::σ) M L H Bs (RW P l.toArray Q (before m) (eN l) k0 (i::rest)))
  (hf:¬p->JR c n ((dj,.bool false)::σ) M L H Bs (RW P l.toArray Q (before m) (eN l) k0 (i::rest))):JR c n σ M L H Bs (RW P l.toArray Q (before m) (eN l) k0 (i::rest)):=
 JR.guard hi hj hg (fun h=>ht (of_decide_eq_true h)) (fun h=>hf (of_decide_eq_false h))
def aW (P:Program) (c:Ax) (n:Sz) (σ:Fr) (M L:List bX) (o:Oper) {A:Type} (val:A->Value) (M' L':A->List bX):Prop:=
 ∀a w,GG n σ a->St c M L w->o.wp P a w (fun a' w'=>∃x:A,a'=a.put o.dst (val x)∧St c (M' x) (L' x) w') Mz
theorem aT {A:Type} {val:A->Value} {M' L':A->List bX} {ops:Array Oper} {rest:List Oper} {d:Nat} {op:Op} {ty:TypeId} {pos:String} {aft:Array Edge}
  (ho:aW P c n σ M L ⟨some d,op,ty,pos,aft,none⟩ val M' L') (hd:Nat.blt d n.sz=true) (h:∀x,J c n ((d,val x)::σ) (M' x) (L' x) (wpList P ops Q rest)):
  J c n σ M L (wpList P ops Q (⟨some d,op,ty,pos,aft,none⟩::rest)):=fun a w s t=>
 mO rfl (If (oP (fun a' w' ⟨x,he,ht⟩=>by subst he;exact h x _ w' (s.put d _ hd) ht) (ho a w s t)))
theorem eX {A:Type} {val:A->Value} {M' L':A->List bX} {ops:Array Oper} {rest:List Oper} {d:Nat} {op:Op} {ty:TypeId} {pos:String} {aft:Array Edge} {j:Nat} {b:Bool}
  (hg:gv ops σ j=some b) (ho:aW P c n σ M L ⟨some d,op,ty,pos,aft,some (j,b)⟩ val M' L') (hd:Nat.blt d n.sz=true) (h:∀x,J c n ((d,val x)::σ) (M' x) (L' x) (wpList P ops Q rest)):
  J c n σ M L (wpList P ops Q (⟨some d,op,ty,pos,aft,some (j,b)⟩::rest)):=fun a w s t=>
 mO (by simp[Region.wanted,Be s hg]) (If (oP (fun a' w' ⟨x,he,ht⟩=>by subst he;exact h x _ w' (s.put d _ hd) ht) (ho a w s t)))
theorem JR.loud {A:Type} {val:A->Value} {M' L':A->List bX} {i:Nat} {rest:List Nat} {d:Nat} {op:Op} {ty:TypeId} {pos:String} {aft:Array Edge}
  (hi:l[i]? = some ⟨some d,op,ty,pos,aft,none⟩) (hk:Nat.blt i k0=true) (hl:fK op=true) (ho:aW P c n σ M L ⟨some d,op,ty,pos,aft,none⟩ val M' L') (hd:Nat.blt d n.sz=true)
  (hB:∀x,Cn (before m i) (M' x) (L' x) Bs) (h:∀x,JR c n ((d,val x)::σ) (M' x) (L' x) ((i,M,L)::H) Bs (RW P l.toArray Q (before m) (eN l) k0 rest)):
  JR c n σ M L H Bs (RW P l.toArray Q (before m) (eN l) k0 (i::rest)):=fun a w X Y s t hX hY=>by
 have hi':l.toArray[i]? = some ⟨some d,op,ty,pos,aft,none⟩:=by simpa using hi
 simp only[RW,hi']
 rw[if_pos (by simp[Region.wanted])]
 refine .inr (.inr ⟨by simpa [Nat.blt_eq]using hk,by simp[eN,hi,hl],oP ?_ (ho a w s t)⟩)
 rintro a' w' ⟨x,rfl,ht⟩
 exact⟨(hB x).use ht hY,h x _ w' _ Y (s.put d _ hd) ht ⟨rfl,t,hX⟩ hY⟩
theorem RW.tail {X:List (Nat×World)} {Y:List (Nat×(World->Prop))}:∀(r:List Nat) (os:List Oper),(∀i∈r,k0<=i)->r.map (l[·]?)=os.map some->∀a w,wpList P l.toArray Q os a w->RW P l.toArray Q (before m) (eN l) k0 r a w X Y
 | [],[],_,_,_,_,h=>h
 | [],_::_,_,e,_,_,_=>by simp at e
 |_::_,[],_,e,_,_,_=>by simp at e
 | i :: r, o :: os, hk, e, a, w, h => by
  simp only[List.map_cons,List.cons.injEq]at e
  have hi':l.toArray[i]? = some o:=by simpa using e.1
  have ih:=fun a w=>RW.tail (X:=X) (Y:=Y) r os (fun i hi=>hk i (List.mem_cons_of_mem _ hi)) e.2 a w
  simp only[RW,hi']
  unfold wpList at h
  split
  ·rename_i hw
   rw[if_pos hw]at h
   refine .inl ⟨hk i List.mem_cons_self,?_⟩
   rcases h with h|h
   ·exact .inl (Oper.wp_mono (fun a w h=>ih a w h) h)
   ·exact .inr (Oper.rnd_mono (fun a w h=>ih a w h) h)
  ·rename_i hw
   rw[if_neg hw]at h
   exact ih _ _ h
theorem JR.tail {r:List Nat} {os:List Oper} (hk:r.all (Nat.ble k0)=true) (he:r.map (l[·]?)=os.map some) (h:J c n σ M L (wpList P l.toArray Q os)):JR c n σ M L H Bs (RW P l.toArray Q (before m) (eN l) k0 r):=
 fun a w _ _ s t _ _=>RW.tail r os (fun i hi=>by simpa using List.all_eq_true.1 hk i hi) he a w (h a w s t)
end
end
section
structure nV (α:Type) where
 sz:Nat
 pos:0<sz
 enc:α->List Value
 len:∀x,(enc x).length=sz
def nV.int (k:IntKind):nV Int:=⟨1,Nat.one_pos,fun x=>[.int k x],fun _=>rfl⟩
def nV.bool:nV Bool:=⟨1,Nat.one_pos,fun x=>[.bool x],fun _=>rfl⟩
def wC:nV Value:=⟨1,Nat.one_pos,fun x=>[x],fun _=>rfl⟩
def cellsOf {α:Type} (e:nV α) (xs:List α):List Value:=xs.flatMap e.enc
theorem eZ {α:Type} (e:nV α) (xs:List α):(cellsOf e xs).length=xs.length*e.sz:=by
 induction xs with
 |nil=>simp[cellsOf]
 |cons x xs ih=>simp only[cellsOf,List.flatMap_cons,List.length_append,e.len,List.length_cons,Nat.add_mul]at *;omega
theorem GJ {α:Type} (e:nV α) (xs:List α):∀(i:Nat) (x:α),xs[i]? = some x->∀j u,(e.enc x)[j]? = some u->(cellsOf e xs)[i*e.sz+j]? = some u:=by
 induction xs with
 |nil=>intro i x h;simp at h
 | cons y xs ih =>
  intro i x h j u hj
  simp only[cellsOf,List.flatMap_cons]
  cases i with
  |zero=>
   simp at h;subst h
   rw[List.getElem?_append_left (by have:=bN hj;omega)]
   simpa using hj
  |succ i=>
   simp only[List.getElem?_cons_succ]at h
   rw[List.getElem?_append_right (by rw[e.len,Nat.add_mul];omega),e.len]
   have:(i+1)*e.sz+j - e.sz=i*e.sz+j:=by rw[Nat.add_mul];omega
   rw[this]
   exact ih i x h j u hj
theorem tA {α:Type} (e:nV α) (xs ys:List α):cellsOf e (xs++ys)=cellsOf e xs++cellsOf e ys:=by simp[cellsOf]
def DY {α:Type} (e:nV α) (w:World) (F:Nat->Prop) (v:Value) (xs:List α):Prop:=
 xs.length<=140737488355328∧(cellsOf e xs).all one=true∧((v = .slice none 0 0∧xs=[])∨∃b off cap T,∃cur:Array Value,v = .slice (some ⟨b,off,none⟩) xs.length cap∧F b∧w.heap[b]? = some (.cells cur T (0,0))∧
  xs.length<=cap∧off+cap*e.sz<=cur.size∧(cur.toList.drop off).take (xs.length*e.sz)=cellsOf e xs)
def Ar {α:Type} (e:nV α) (v:Value) (xs:List α):bX where
 p w F:=DY e w F v xs
 mono:=fun⟨h0,h1,h⟩ hs=>⟨h0,h1,by
  rcases h with h|⟨b,off,cap,T,cur,hv,hF,hb,r⟩
  ·exact .inl h
  ·obtain⟨h3,h4⟩:=hs b hF (Array.getElem?_eq_some_iff.1 hb).1
   exact .inr ⟨b,off,cap,T,cur,hv,h3,by rw[h4];exact hb,r⟩⟩
section
variable {α:Type} {e:nV α} {w:World} {F:Nat->Prop} {v:Value} {xs:List α}
theorem DY.cell (h:DY e w F v xs) {i:Nat} {x:α} (hx:xs[i]? = some x) {j:Nat} {u:Value} (hu:(e.enc x)[j]? = some u):w.cell? (IF v (i*e.sz+j))=some u:=by
 obtain⟨_,_,h⟩:=h
 rcases h with⟨_,h⟩|⟨b,off,cap,T,cur,hv,_,hb,hk,hc,ht⟩
 ·subst h;simp at hx
 ·have hg:=GJ e xs i x hx j u hu
  rw[<-ht,List.getElem?_take]at hg
  split at hg
  ·rw[List.getElem?_drop]at hg
   subst hv
   simp only[IF,fM]
   simp[World.cell?,hb]
   simpa using hg
  ·cases hg
theorem PV (h:DY e w F v xs) (hx:xs≠[]) (o:Nat):w.frozen? (IF v o)=false:=by
 obtain⟨_,_,h⟩:=h
 rcases h with⟨_,h⟩|⟨b,off,cap,T,cur,hv,_,hb,_⟩
 ·exact absurd h hx
 ·subst hv;simp only[IF,fM];simp[World.frozen?,hb]
end
section
variable {P:Program} {rd:Option Nat} {c:Ax} {n:Sz} {σ:Fr} {M L:List bX} {Q:Exit->Act->World->Prop} {ops:Array Oper} {rest:List Oper}
variable {d:Option Tmp} {D:Nat} {ty:TypeId} {pos:String} {aft:Array Edge} {g:Option (Nat×Bool)}
variable {α:Type} {e:nV α}
theorem Fq {xs:List α} (hq:e.sz=1) {i:Nat} {y:α} {u:Value} (hu:e.enc y=[u]):cellsOf e (xs.set i y)=(cellsOf e xs).set i u:=by
 induction xs generalizing i with
 |nil=>simp[cellsOf]
 | cons x xs ih =>
  obtain⟨p,hp⟩:∃p,e.enc x=[p]:=by
   have:=e.len x
   rw[hq]at this
   exact List.length_eq_one_iff.1 this
  cases i with
  |zero=>simp[cellsOf,hp,hu]
  |succ i=>simp only[List.set_cons_succ,cellsOf,List.flatMap_cons,hp,List.singleton_append]at *;rw[ih]
theorem take_set {β:Type} (l:List β) (k i:Nat) (u:β):(l.set i u).take k=(l.take k).set i u:=by
 rw[List.take_set]
theorem Qb [eM P] (j:Nat) {T:TypeId} {s2:Nat} {z:Value} {dT:TypeDesc} {x y:Operand} {v u:Value} {i:Int} {xs:List α} (yv:α) (hx:ev σ x=some (HN v (i.toNat*1))) (hy:ev σ y=some u) (hu:e.enc yv=[u]) (h1u:one u=true)
  (hf:M[j]? = some (Ar e v xs)) (hT:eM.tab P T=some ⟨dT,1,s2,z⟩) (hq:e.sz=1) (h0:0<=i) (h1:i<xs.length)
  (h:J c n σ (M.set j (Ar e v (xs.set i.toNat yv))) L (wpList P ops Q rest)):
  J c n σ M L (wpList P ops Q (⟨none,.store T x y,ty,pos,aft,none⟩::rest)):=fun a w s t=>by
 refine mO rfl ?_
 obtain⟨F,hF⟩:=t.res hf
 have hi:i.toNat<xs.length:=by omega
 have hget:xs[i.toNat]? = some xs[i.toNat]:=List.getElem?_eq_getElem hi
 have hne:xs≠[]:=by intro e;subst e;simp at hi
 obtain⟨p,hp⟩:∃p,e.enc xs[i.toNat]=[p]:=List.length_eq_one_iff.1 ((e.len _).trans hq)
 have hcell:=DY.cell hF hget (j:=0) (u:=p) (by rw[hp];rfl)
 rw[hq,Nat.add_zero,Nat.mul_one]at hcell
 rw[Nat.mul_one]at hx
 have hfree:=PV hF hne i.toNat
 have hrun:(execOp a.eval ⟨none,.store T x y,ty,pos,aft,none⟩).run P w = .ok .skip (w.setCell (IF v i.toNat) u):=by
  simp only[execOp,s.eval hx,s.eval hy,HN]
  simp[Ik (eM.ok hT) rfl h1u hcell hfree]
 simp only[Oper.wp,hrun,Oper.upon]
 refine h _ _ s (t.upd hf rfl rfl rfl (by simp[World.setCell]) fun F hF _=> ?_)
 obtain⟨hl,h1,hh⟩:=hF
 rcases hh with⟨_,hh⟩|⟨b,off,cap,T',cur,hv,hFb,hb,hk,hc,ht⟩
 ·exact absurd hh hne
 ·subst hv
  have ha:IF (.slice (some ⟨b,off,none⟩) xs.length cap) i.toNat=⟨b,off+i.toNat,none⟩:=by simp[IF,fM]
  rw[ha]
  refine⟨fun k _ hk'=>Below.heap_setCell _ _ _ _ (fun e=>hk' (by simp only at e;subst e;exact hFb)),F,⟨by simpa using hl,?_,.inr ⟨b,off,cap,T',cur.setIfInBounds (off+i.toNat) u,by simp,hFb,?_,by simpa using hk,by simpa using hc,?_⟩⟩,fun _ h=> .inl h⟩
  ·rw[Fq hq hu,List.all_eq_true]
   intro q hq'
   rcases List.mem_or_eq_of_mem_set hq' with h'|h'
   ·exact List.all_eq_true.1 h1 q h'
   ·rw[h'];exact h1u
  ·simp[World.setCell,Array.getElem?_modify,hb]
  ·rw[Fq hq hu,<-ht,Array.toList_setIfInBounds,List.length_set,<-take_set]
   congr 1
   rw[List.drop_set,if_neg (by omega),Nat.add_sub_cancel_left]
theorem St.allocAr {w:World} (t:St c M L w) (cs:List Value) (T:TypeId) {xs:List α} {k:Nat} (hk:xs.length=k) (hl:xs.length<=140737488355328) (hc:cs=cellsOf e xs) (h1:(cellsOf e xs).all one=true):
  St c (Ar e (.slice (some ⟨w.heap.size,0,none⟩) k k) xs::M) L (w.alloc (.cells cs.toArray T)):=by
 have t':=t.alloc cs T
 obtain⟨ho,F,hF,hL⟩:=t'
 refine⟨ho,F,⟨fun i m hm=> ?_,hF.rng,hF.dis⟩,hL⟩
 cases i with
 | zero =>
  simp at hm;subst hm
  have hb:=hF.res 0 _ rfl
  refine⟨hl,h1,.inr ⟨w.heap.size,0,k,T,cs.toArray,by rw[hk],hb.1,hb.2,by omega,?_,?_⟩⟩
  ·simp only[Nat.zero_add,List.size_toArray,hc,eZ,hk];exact Nat.le_refl _
  ·simp only[List.drop_zero,hc]
   rw[List.take_of_length_le (by rw[eZ];exact Nat.le_refl _)]
 |succ i=>exact hF.res (i+1) m (by simpa using hm)
theorem aW.buildSlice [eM P] {T E:TypeId} {k s1 s2 s3 s4:Nat} {z z':Value} {dE:TypeDesc} {ps:List (Nat×Operand)} {vs:List (Nat×Value)} (xs:List α)
    (hT:eM.tab P T=some ⟨.slice E,s1,s2,z⟩) (hE:eM.tab P E=some ⟨dE,s3,s4,z'⟩) (hs:Nat.ble (k*s3) 16777216=true) (hv:ps.map (fun p=>(p.1,ev σ p.2))=vs.map (fun p=>(p.1,some p.2)))
    (hfill:∀init:Array Value,init.size=k*s3->Instr.fill (fun i=>some (i*s3,s3)) init vs=some (cellsOf e xs).toArray)
    (hk:xs.length=k) (hl:Nat.ble xs.length 140737488355328=true) (h1:(cellsOf e xs).all one=true):
    aW P c n σ M L ⟨d,.buildSlice T k ps.toArray,ty,pos,aft,g⟩ (fun b:Nat=> .slice (some ⟨b,0,none⟩) k k) (fun b=>Ar e (.slice (some ⟨b,0,none⟩) k k) xs::M) (fun _=>L):=fun a w s t=>by
  have hps:ps.map (fun p=>(p.1,a.eval p.2))=vs:=by
    clear hfill
    induction ps generalizing vs with
    |nil=>cases vs<;>simp_all
    | cons p ps ih =>
      cases vs with
      |nil=>simp at hv
      | cons q vs =>
        simp only[List.map_cons,List.cons.injEq,Prod.mk.injEq]at hv
        simp only[List.map_cons,s.eval hv.1.2,hv.1.1,ih hv.2]
  have hsz : ¬ (16777216 < k * s3) := by
      have : k * s3 ≤ 16777216 := by simpa using hs
      omega
  have hrun:(execOp a.eval ⟨d,.buildSlice T k ps.toArray,ty,pos,aft,g⟩).run P w = .ok (.value (.slice (some ⟨w.heap.size,0,none⟩) k k)) (w.alloc (.cells (cellsOf e xs).toArray E)):=by
    simp only[execOp,List.map_toArray,hps,Instr.buildSlice]
    by_cases h0:k*s3=0
    · have hf:=hfill ((Array.range (k*s3)).map ((#[]:Array Value)[· % (#[]:Array Value).size]!)) (by simp)
      simp[(eM.ok hT).run_und w,(eM.ok hE).run_size w,h0]at hf ⊢
      simp[hf,newRow]
    · have hf:=hfill ((Array.range (k*s3)).map (z'.cells[· % z'.cells.size]!)) (by simp)
      simp[(eM.ok hT).run_und w,(eM.ok hE).run_size w,(eM.ok hE).run_zero w,h0,hsz,hf,newRow]
  simp only[Oper.wp,hrun,Oper.upon]
  exact⟨w.heap.size,rfl,t.allocAr (cellsOf e xs) E hk (by simpa using hl) rfl h1⟩
theorem aW.makeSlice [eM P] {T E:TypeId} {s1 s2 s3 s4:Nat} {z z':Value} {dE:TypeDesc} {x:Operand} {k:Int} (xs:List α)
  (hT:eM.tab P T=some ⟨.slice E,s1,s2,z⟩) (hE:eM.tab P E=some ⟨dE,s3,s4,z'⟩) (hx:ev σ x=some (.int .i64 k)) (h0:0<=k) (hb:(s4:Int)*k<=281474976710656) (h63:k<=140737488355328)
  (hk:xs.length=k.toNat) (hz:(madeCells z'.cells (k.toNat*s3)).toList=cellsOf e xs) (h1:(cellsOf e xs).all one=true):
  aW P c n σ M L ⟨d,.makeSlice T x x,ty,pos,aft,g⟩ (fun b:Nat=> .slice (some ⟨b,0,none⟩) k.toNat k.toNat) (fun b=>Ar e (.slice (some ⟨b,0,none⟩) k.toNat k.toNat) xs::M) (fun _=>L):=fun a w s t=>by
 obtain⟨iE,hiE,hs,hby,hze⟩:=(eM.ok hE).info
 simp only at hs hby hze
 have hr:=run_make (P:=P) w T E iE z' (eM.ok hT).und hiE hze .i64 .i64 k k h0 (Int.le_refl _) (by rw[hby];exact hb) (by omega)
 have hrun:(execOp a.eval ⟨d,.makeSlice T x x,ty,pos,aft,g⟩).run P w = .ok (.value (.slice (some ⟨w.heap.size,0,none⟩) k.toNat k.toNat)) (w.alloc (.cells (cellsOf e xs).toArray E)):=by
  simp only[execOp,s.eval hx]
  have:madeCells z'.cells (k.toNat*iE.size)=(cellsOf e xs).toArray:=by rw[<-hz,hs]
  simp[hr,this]
 simp only[Oper.wp,hrun,Oper.upon]
 exact⟨w.heap.size,rfl,t.allocAr (cellsOf e xs) E hk (by omega) rfl h1⟩
theorem LR {T ty E:TypeId} {dT dE:Ty} {w:World} (hT:sT P T dT) (hd:dT.desc = .slice E) (hE:sT P E dE) {b off k cap:Nat} {cur:Array Value} {T':TypeId} (hb:w.heap[b]? = some (.cells cur T' (0,0))) {m:Nat} {x:Value} {ns:List Value} (hs:Src P dE.size T x m ns w)
  (hroom:k+m<=cap) (hc:off+cap*dE.size<=cur.size):
  (Builtin.append_ #[T,T] ty #[.slice (some ⟨b,off,none⟩) k cap,x]).run P w = .ok (.slice (some ⟨b,off,none⟩) (k+m) cap) (w.setRow b (cur.toList.take (off+k*dE.size)++ns++cur.toList.drop (off+k*dE.size+ns.length)).toArray):=by
 have hfit:off+k*dE.size+0+ns.length<=cur.size:=by
  rw[hs.newsLen]
  have:=Nat.mul_le_mul_right dE.size hroom
  rw[Nat.add_mul]at this
  omega
 have hst:=run_storeCells_at P b (off+k*dE.size) T' ns 0 cur w hb hfit hs.one
 simp only[Nat.add_zero]at hst
 have hu:=hT.run_und w
 rw[hd]at hu
 simp[Builtin.append_,hu,hE.run_size w,hs.len,hroom,hs.cells,fM,hst]
theorem LP {T ty E:TypeId} {dT dE:Ty} {w:World} (hT:sT P T dT) (hd:dT.desc = .slice E) (hE:sT P E dE) {base:Option Addr} {k cap:Nat} {olds:List Value}
  (hold:(Builtin.firstCells dE.size k (.slice base k cap)).run P w.drew = .ok olds.toArray w.drew) {m:Nat} {x:Value} {ns:List Value} (hs:Src P dE.size T x m ns w) (hg:cap<k+m) (hb:(k+m)*dE.bytes<=140737488355328) (h63:k+m<=140737488355328):
  (Builtin.append_ #[T,T] ty #[.slice base k cap,x]).run P w = .ok (.slice (some ⟨w.heap.size,0,none⟩) (k+m) (grownCap w (k+m) cap E))
   (w.drew.alloc (.cells ((olds++ns).toArray++Builtin.zeroCells dE.zero.cells (grownCap w (k+m) cap E - (k+m))) E)):=by
 obtain⟨iE,hiE,hsz,hby,hz⟩:=hE.info
 have hfit:=growslice_fits (need:=k+m) (old:=cap) (bytes:=dE.bytes) hg hb
 exact run_append_grow_src w T T ty E iE dE.zero (by rw[hT.und,hd]) hiE hz base k cap olds (by rw[hsz];exact hold) x m ns (by rw[hsz];exact hs) hg (by omega) (by rw[hby];exact hfit)
theorem DY.src [eM P] {w:World} {F:Nat->Prop} {v:Value} {xs:List α} {T E:TypeId} {s1 s2:Nat} {z:Value} (h:DY e w F v xs) (hT:eM.tab P T=some ⟨.slice E,s1,s2,z⟩):Src P e.sz T v xs.length (cellsOf e xs) w:=by
 obtain⟨_,h1,h⟩:=h
 have hone:∀u∈cellsOf e xs,u.oneCell'=true:=fun u hu=>oQ (List.all_eq_true.1 h1 u hu)
 rcases h with⟨rfl,rfl⟩|⟨b,off,cap,T',cur,rfl,_,hb,hk,hc,ht⟩
 ·exact Src.ofNil w (eM.ok hT).und 0
 ·refine Src.ofSlice w (eM.ok hT).und _ _ _ _ (eZ e xs) (fun j u hu=> ?_) hone
  rw[<-ht,List.getElem?_take]at hu
  split at hu
  ·rw[List.getElem?_drop]at hu
   rw[fM]
   simp[World.cell?,hb]
   simpa using hu
  ·cases hu
theorem DY.old [eM P] {w:World} {F:Nat->Prop} {v:Value} {xs:List α} (h:DY e w F v xs):∃base cap,v = .slice base xs.length cap∧(Builtin.firstCells e.sz xs.length v).run P w.drew = .ok (cellsOf e xs).toArray w.drew:=by
 obtain⟨_,h1,h⟩:=h
 rcases h with⟨rfl,rfl⟩|⟨b,off,cap,T',cur,rfl,_,hb,hk,hc,ht⟩
 ·exact⟨none,0,rfl,run_firstCells_none w.drew e.sz 0 0 0⟩
 ·refine⟨_,cap,rfl,run_firstCells_some w.drew e.sz xs.length _ _ _ _ (eZ e xs) (fun j u hu=> ?_)⟩
  rw[<-ht,List.getElem?_take]at hu
  split at hu
  ·rw[List.getElem?_drop]at hu
   rw[fM]
   have hb':w.drew.heap[b]? = some (.cells cur T' (0,0)):=hb
   simp[World.cell?,hb']
   simpa using hu
  ·cases hu
theorem Pd (cur:List Value) (off len:Nat) (ns:List Value) (h:off+len+ns.length<=cur.length):
  ((cur.take (off+len)++ns++cur.drop (off+len+ns.length)).drop off).take (len+ns.length)=(cur.drop off).take len++ns:=by
 have e1:off+len - off=len:=by omega
 have e2:((cur.drop off).take len).length=len:=by simp;omega
 rw[List.append_assoc,List.drop_append_of_le_length (by simp;omega),List.drop_take,e1,List.take_append,e2,List.take_of_length_le (by omega)]
 have e3:len+ns.length - len=ns.length:=by omega
 rw[e3,List.take_append_of_le_length (Nat.le_refl _),List.take_of_length_le (Nat.le_refl _)]
structure Wt (w w':World) (F F':Nat->Prop):Prop where
 os:w'.os=w.os
 tape:w'.tape=w.tape
 out:w'.output=w.output
 size:w.heap.size<=w'.heap.size
 same:∀k,k<w.heap.size->¬F k->w'.heap[k]? = w.heap[k]?
 sub:∀k,F' k->F k∨(w.heap.size<=k∧k<w'.heap.size)
theorem DY.append [eM P] {w:World} {F:Nat->Prop} {v x:Value} {xs ys:List α} {T E ty:TypeId} {s1 s2 s4:Nat} {z z':Value} {dE:TypeDesc} (hF0:DY e w F v xs) (hs:Src P e.sz T x ys.length (cellsOf e ys) w) (h1y:(cellsOf e ys).all one=true)
  (hT:eM.tab P T=some ⟨.slice E,s1,s2,z⟩) (hE:eM.tab P E=some ⟨dE,e.sz,s4,z'⟩) (hb:(xs.length+ys.length)*s4<=140737488355328) (hl:xs.length+ys.length<=140737488355328) (hz:z'.cells.size=e.sz):
  ∃v' w' F',(Builtin.append_ #[T,T] ty #[v,x]).run P w = .ok v' w'∧DY e w' F' v' (xs++ys)∧Wt w w' F F':=by
 have hall:(cellsOf e (xs++ys)).all one=true:=by
  rw[tA,List.all_append,hF0.2.1,h1y];rfl
 obtain⟨base,cap,rfl,hold⟩:=DY.old (P:=P) hF0
 by_cases hroom:xs.length+ys.length<=cap
 ·have hF1:=hF0
  obtain⟨_,_,hh⟩:=hF0
  rcases hh with⟨hv,rfl⟩|⟨b,off,cap',T',cur,hv,hFb,hbk,hk,hc,ht⟩
  ·cases hv
   have hy:ys=[]:=List.eq_nil_of_length_eq_zero (by simpa using hroom)
   subst hy
   refine⟨.slice none 0 0,w,F,?_,hF1,⟨rfl,rfl,rfl,Nat.le_refl _,fun _ _ _=>rfl,fun _ h=> .inl h⟩⟩
   have hu:=(eM.ok hT).run_und w
   have hlen:=hs.len w
   have hcl:=hs.cells
   simp only[List.length_nil]at hlen hcl
   have hcc:cellsOf e ([]:List α)=[]:=rfl
   rw[hcc]at hcl
   simp[Builtin.append_,hu,(eM.ok hE).run_size w,hlen,hcl]
  ·cases hv
   have hr:=LR (P:=P) (ty:=ty) (eM.ok hT) rfl (eM.ok hE) hbk hs hroom hc
   have hfit:off+xs.length*e.sz+(cellsOf e ys).length<=cur.toList.length:=by
    rw[eZ]
    have:=Nat.mul_le_mul_right e.sz hroom
    rw[Nat.add_mul]at this
    simp;omega
   refine⟨_,_,F,hr,⟨by simpa using hl,hall,.inr ⟨b,off,cap,T',_,by simp,hFb,setRow_heap w b _ _ T' _ hbk,by simpa using hroom,?_,?_⟩⟩,⟨rfl,rfl,rfl,by simp,fun k _ hk'=>setRow_other w b k _ (fun e=>hk' (by subst e;exact hFb)),fun _ h=> .inl h⟩⟩
   ·simp only[List.size_toArray,List.length_append,List.length_take,List.length_drop]
    have:cur.size=cur.toList.length:=by simp
    omega
   ·have:=Pd cur.toList off (xs.length*e.sz) (cellsOf e ys) hfit
    rw[List.length_append,Nat.add_mul,<-eZ e ys,tA,<-ht]
    exact this
 ·have hr:=LP (P:=P) (ty:=ty) (eM.ok hT) rfl (eM.ok hE) hold hs (by omega) hb hl
  have hge:=grownCap_ge w (xs.length+ys.length) cap E
  refine⟨_,_,fun k=>k=w.heap.size,hr,⟨by simpa using hl,hall,.inr ⟨w.heap.size,0,grownCap w (xs.length+ys.length) cap E,E,_,by simp,rfl,heap_alloc_new w.drew _,by simpa using hge,?_,?_⟩⟩,
   ⟨rfl,rfl,rfl,by simp,fun k hk _=>Below.heap_alloc w.drew _ k hk,fun k hk=> .inr ⟨by omega,by subst hk;simp⟩⟩⟩
  ·simp only[Nat.zero_add,Array.size_append,List.size_toArray,List.length_append,eZ,size_zeroCells,hz]
   rw[<-Nat.add_mul,<-Nat.add_mul]
   exact Nat.mul_le_mul_right _ (by omega)
  ·simp only[List.drop_zero,Array.toList_append,List.length_append]
   rw[<-tA,List.take_append_of_le_length (by rw[eZ];simp),List.take_of_length_le (by rw[eZ];simp)]
theorem St.append [eM P] {w:World} (t:St c M L w) {i:Nat} {v x:Value} {xs ys:List α} {T E ty:TypeId} {s1 s2 s4:Nat} {z z':Value} {dE:TypeDesc} (hf:M[i]? = some (Ar e v xs)) (hs:Src P e.sz T x ys.length (cellsOf e ys) w) (h1y:(cellsOf e ys).all one=true)
  (hT:eM.tab P T=some ⟨.slice E,s1,s2,z⟩) (hE:eM.tab P E=some ⟨dE,e.sz,s4,z'⟩) (hb:(xs.length+ys.length)*s4<=140737488355328) (hl:xs.length+ys.length<=140737488355328) (hz:z'.cells.size=e.sz):
  ∃v' w',(Builtin.append_ #[T,T] ty #[v,x]).run P w = .ok v' w'∧St c (M.set i (Ar e v' (xs++ys))) L w':=by
 have t0:=t
 obtain⟨ho,FF,hO,hLL⟩:=t0
 obtain⟨v',w',F',hr,hA,hG⟩:=DY.append (ty:=ty) (hO.res i _ hf) hs h1y hT hE hb hl hz
 refine⟨v',w',hr,?_⟩
 exact Fg ho hO hLL hf hG.os hG.tape hG.out hG.size hG.same hA hG.sub
end
end
section
section
variable {P:Program} {rd:Option Nat} {c:Ax} {n:Sz} {σ:Fr} {M L:List bX} {Q:Exit->Act->World->Prop} {ops:Array Oper} {rest:List Oper}
variable {d:Option Tmp} {D:Nat} {ty:TypeId} {pos:String} {aft:Array Edge} {g:Option (Nat×Bool)}
variable {α:Type} {e:nV α}
theorem aW.alloc [eM P] {T:TypeId} {dT:Ty} {cs:List Value} (hT:eM.tab P T=some dT) (hz:dT.zero.cells=cs.toArray):
  aW P c n σ M L ⟨d,.alloc T,ty,pos,aft,g⟩ (fun b:Nat=> .pointer (some ⟨b,0,none⟩)) (fun b=>bJ b cs T::M) (fun _=>L):=fun a w s t=>by
 have hrun:(execOp a.eval ⟨d,.alloc T,ty,pos,aft,g⟩).run P w = .ok (.value (.pointer (some ⟨w.heap.size,0,none⟩))) (w.alloc (.cells cs.toArray T)):=by
  simp[execOp,Gt w (eM.ok hT),hz]
 simp only[Oper.wp,hrun,Oper.upon]
 exact⟨w.heap.size,rfl,t.alloc cs T⟩
theorem aW.box {T:TypeId} {x:Operand} {v:Value} {cs:List Value} (hx:ev σ x=some v) (hz:v.cells=cs.toArray):
  aW P c n σ M L ⟨d,.box T x,ty,pos,aft,g⟩ (fun b:Nat=> .pointer (some ⟨b,0,none⟩)) (fun b=>bJ b cs T::M) (fun _=>L):=fun a w s t=>by
 have hrun:(execOp a.eval ⟨d,.box T x,ty,pos,aft,g⟩).run P w = .ok (.value (.pointer (some ⟨w.heap.size,0,none⟩))) (w.alloc (.cells cs.toArray T)):=by
  simp[execOp,s.eval hx,Instr.box,newVar,newRow,hz]
 simp only[Oper.wp,hrun,Oper.upon]
 exact⟨w.heap.size,rfl,t.alloc cs T⟩
theorem aW.call {A:Type} {ret:A->Value} {MO LO:A->List bX->List bX} {f:FuncId} {xs:List Operand} {vs:List Value} {ats:Array TypeId} {L0:List bX} (hb:bO P f)
  (hs:bQ P f vs.toArray L0 ret MO LO) (hx:xs.map (ev σ)=vs.map some) (hL:j_ L L0) (hMO:∀x l,MO x l=MO x []++l) (hLO:∀x l,LO x l=LO x []++l):
  aW P c n σ M L ⟨d,.call ⟨.value (.func f),xs.toArray,ats⟩,ty,pos,aft,g⟩ ret (fun x=>MO x M) (fun x=>LO x L):=fun a w s t=>by
 have hrun:(execOp a.eval ⟨d,.call ⟨.value (.func f),xs.toArray,ats⟩,ty,pos,aft,g⟩).run P w = .ok (.enter f vs.toArray) w:=by
  have e:=XH s hx
  simp[execOp,resolve,Act.eval,Deferred.ofValue,invoke,hb _ w,e]
 simp only[Oper.wp,hrun,Oper.upon]
 obtain⟨ho,F,hF,hLF⟩:=t
 refine(hs w (BS c F) (fun f hf=>hLF f (hL f hf))).mono ?_
 rintro e w' ⟨x,rfl,ht⟩
 refine⟨x,rfl,?_⟩
 rw[hMO,hLO]
 exact St.call ho hF hLF ht
theorem CK [eM P] {x y:Operand} {T:TypeId} {vx vy:Value} {a:Act} (s:GG n σ a) (hx:ev σ x=some vx) (hy:ev σ y=some vy) (w:World):
  (execOp a.eval ⟨d,.call ⟨.builtin .append,#[x,y],#[T,T]⟩,ty,pos,aft,g⟩).run P w=((Builtin.append_ #[T,T] ty #[vx,vy]).run P w).andThen fun v w'=> .ok (.value v) w':=by
 simp[execOp,resolve,invoke,builtin,s.eval hx,s.eval hy]
theorem El.src [eM P] {β:Type} {r:kJ β} {w:World} {S:Nat->Prop} {v:Value} {xs:List β} {T E:TypeId} {s1 s2:Nat} {z:Value} (h:El r w S v xs) (hT:eM.tab P T=some ⟨.slice E,s1,s2,z⟩) (hr:∀{w S es x},r.R w S es x->es.all one=true):
  ∃cs,Src P r.sz T v xs.length cs w∧cs.all one=true∧cs.length=xs.length*r.sz∧∀i x,xs[i]? = some x->∃es,r.R w S es x∧∀j u,es[j]? = some u->cs[i*r.sz+j]? = some u:=by
 obtain⟨a,cap,rfl,hlen,h⟩:=h
 rcases h with rfl|⟨b,off,rfl,_,h⟩
 ·cases a with
  |none=>
   refine⟨[],?_,rfl,by simp,fun i x hx=>by simp at hx⟩
   exact Src.ofNil w (eM.ok hT).und cap
  |some a=>
   refine⟨[],?_,rfl,by simp,fun i x hx=>by simp at hx⟩
   exact Src.ofSlice w (eM.ok hT).und a 0 cap [] (by simp) (fun j u hu=>by simp at hu) (fun u hu=>by simp at hu)
 ·
  have key:∀(ys:List β) (k:Nat),(∀i x,ys[i]? = some x->∃es,(∀j e,es[j]? = some e->w.cell? ⟨b,off+((k+i)*r.sz+j),none⟩=some e)∧r.R w S es x)->
    ∃cs:List Value,cs.all one=true∧cs.length=ys.length*r.sz∧(∀j u,cs[j]? = some u->w.cell? ⟨b,off+(k*r.sz+j),none⟩=some u)∧∀i x,ys[i]? = some x->∃es,r.R w S es x∧∀j u,es[j]? = some u->cs[i*r.sz+j]? = some u:=by
   intro ys
   induction ys with
   |nil=>intro k _;exact⟨[],rfl,by simp,fun j u hu=>by simp at hu,fun i x hx=>by simp at hx⟩
   | cons y ys ih =>
    intro k hk
    obtain⟨es,hes,hre⟩:=hk 0 y rfl
    obtain⟨cs,h1,h2,h3,h4⟩:=ih (k+1) (fun i x hx=>by
     obtain⟨es',hes',hre'⟩:=hk (i+1) x (by simpa using hx)
     refine⟨es',fun j u hu=> ?_,hre'⟩
     have:=hes' j u hu
     rwa[show k+(i+1)=k+1+i from by omega]at this)
    have hl:=r.len hre
    refine⟨es++cs,by rw[List.all_append,hr hre,h1];rfl,by rw[List.length_append,h2,hl,List.length_cons,Nat.add_mul];omega,?_,?_⟩
    ·intro j u hu
     by_cases hj:j<es.length
     ·rw[List.getElem?_append_left hj]at hu
      have:=hes j u hu
      rwa[Nat.add_zero]at this
     ·rw[List.getElem?_append_right (by omega)]at hu
      have:=h3 _ u hu
      rw[Nat.add_mul,hl]at this
      rwa[show off+(k*r.sz+1*r.sz+(j - r.sz))=off+(k*r.sz+j)from by omega]at this
    ·intro i x hx
     cases i with
     |zero=>
      simp at hx;subst hx
      refine⟨es,hre,fun j u hu=> ?_⟩
      rw[List.getElem?_append_left (by have:=bN hu;omega)]
      simpa using hu
     |succ i=>
      obtain⟨es',hre',h5⟩:=h4 i x (by simpa using hx)
      refine⟨es',hre',fun j u hu=> ?_⟩
      rw[List.getElem?_append_right (by rw[hl,Nat.add_mul];omega),hl]
      rw[show(i+1)*r.sz+j - r.sz=i*r.sz+j from by rw[Nat.add_mul];omega]
      exact h5 j u hu
  obtain⟨cs,h1,h2,h3,h4⟩:=key xs 0 (fun i x hx=>by
   obtain⟨es,hes,hre⟩:=h i x hx
   exact⟨es,fun j u hu=>by rw[Nat.zero_add];exact hes j u hu,hre⟩)
  refine⟨cs,?_,h1,h2,h4⟩
  refine Src.ofSlice w (eM.ok hT).und _ _ _ _ h2 (fun j u hu=> ?_) (fun u hu=>oQ (List.all_eq_true.1 h1 u hu))
  rw[fM]
  have:=h3 j u hu
  rwa[Nat.zero_mul,Nat.zero_add]at this
def nV.Fits (e:nV α) (r:kJ α):Prop:=r.sz=e.sz∧(∀{w S es x},r.R w S es x->es=e.enc x)∧(∀{w S x},r.R w S (e.enc x) x)∧∀x,(e.enc x).all one=true
theorem JH (k:IntKind):(nV.int k).Fits (kJ.int k):=⟨rfl,fun h=>h,rfl,fun _=>rfl⟩
theorem IE:nV.bool.Fits kJ.bool:=⟨rfl,fun h=>h,rfl,fun _=>rfl⟩
theorem GI {cs:List Value} {xs:List α} (hl:cs.length=xs.length*e.sz) (h:∀i x,xs[i]? = some x->∀j u,(e.enc x)[j]? = some u->cs[i*e.sz+j]? = some u):cs=cellsOf e xs:=by
 apply List.ext_getElem?
 intro k
 by_cases hk:k<xs.length*e.sz
 ·have hpos:=e.pos
  have hi:k / e.sz<xs.length:=Nat.div_lt_of_lt_mul (by rw[Nat.mul_comm];exact hk)
  have hm:k%e.sz<e.sz:=Nat.mod_lt _ hpos
  have hx:xs[k / e.sz]? = some (xs[k / e.sz]):=List.getElem?_eq_getElem hi
  have hlen:=e.len xs[k / e.sz]
  have hu:(e.enc xs[k / e.sz])[k%e.sz]? = some ((e.enc xs[k / e.sz])[k%e.sz]'(by omega)):=List.getElem?_eq_getElem _
  have ek:k / e.sz*e.sz+k%e.sz=k:=by rw[Nat.mul_comm];exact Nat.div_add_mod k e.sz
  have h1:=h _ _ hx _ _ hu
  have h2:=GJ e xs _ _ hx _ _ hu
  rw[ek]at h1 h2
  rw[h1,h2]
 ·rw[List.getElem?_eq_none (by omega),List.getElem?_eq_none (by rw[eZ];omega)]
theorem Le [eM P] {r:kJ α} (hfit:e.Fits r) {w:World} {S:Nat->Prop} {v:Value} {xs:List α} {T E:TypeId} {s1 s2:Nat} {z:Value} (h:El r w S v xs) (hT:eM.tab P T=some ⟨.slice E,s1,s2,z⟩):
  Src P e.sz T v xs.length (cellsOf e xs) w∧(cellsOf e xs).all one=true:=by
 obtain⟨hsz,h1,_,h3⟩:=hfit
 obtain⟨cs,hs,ho,hl,hc⟩:=El.src h hT (fun {w S es x} hr=>by rw[h1 hr];exact h3 x)
 have:cs=cellsOf e xs:=GI (by rw[hl,hsz]) (fun i x hx j u hu=>by
  obtain⟨es,hre,he⟩:=hc i x hx
  rw[<-hsz]
  exact he j u (by rw[h1 hre];exact hu))
 subst this
 rw[<-hsz]
 exact⟨hs,ho⟩
theorem DY.sl {r:kJ α} (hfit:e.Fits r) {w:World} {F:Nat->Prop} {v:Value} {xs:List α} (h:DY e w F v xs):El r w F v xs:=by
 obtain⟨hsz,_,h2,_⟩:=hfit
 have h':=h
 obtain⟨hl,_,hh⟩:=h
 rcases hh with⟨rfl,rfl⟩|⟨b,off,cap,T,cur,rfl,hF,hb,hk,hc,ht⟩
 ·exact⟨none,0,rfl,by simp,.inl rfl⟩
 ·refine⟨_,cap,rfl,by omega,.inr ⟨b,off,rfl,hF,fun i x hx=>⟨e.enc x,fun j u hu=> ?_,h2⟩⟩⟩
  have:=DY.cell h' hx hu
  simp only[IF,fM]at this
  rw[hsz]
  exact this
end
end
section
theorem mixedOrders:Go.Proofs.Tryz.prog.follows .mixedOrders=true:=by kernel_rfl
section
variable {P:Program} {rd:Option Nat} {c:Ax} {n:Sz} {σ:Fr} {M L:List bX} {Q:Exit->Act->World->Prop} {ops:Array Oper} {rest:List Oper}
theorem DZ {d:Option Tmp} {ty:TypeId} {pos:String} {aft:Array Edge} {g:Option (Nat×Bool)} {T:TypeId} {ps:List (Nat×Operand)} {vs:List (Nat×Value)} {r:Value} (hv:ps.map (fun p=>(p.1,ev σ p.2))=vs.map (fun p=>(p.1,some p.2)))
  (hr:∀w,(Instr.build T vs.toArray).run P w = .ok r w):Y P c n σ M L ⟨d,.build T ps.toArray,ty,pos,aft,g⟩ r:=fun a w s _=>by
 have hps:ps.map (fun p=>(p.1,a.eval p.2))=vs:=by
  clear hr
  induction ps generalizing vs with
  |nil=>cases vs<;>simp_all
  | cons p ps ih =>
   cases vs with
   |nil=>simp at hv
   |cons q vs=>
    simp only[List.map_cons,List.cons.injEq,Prod.mk.injEq]at hv
    simp only[List.map_cons,s.eval hv.1.2,hv.1.1,ih hv.2]
 simp only[execOp,List.map_toArray,hps]
 simp[hr w]
theorem sK {d:Option Tmp} {ty:TypeId} {pos:String} {aft:Array Edge} {g:Option (Nat×Bool)} {T:TypeId} {r:Value} (hr:∀w,(Instr.build T ([]:List (Nat×Value)).toArray).run P w = .ok r w):Y P c n σ M L ⟨d,.build T #[],ty,pos,aft,g⟩ r:=
 DZ (ps:=[]) (vs:=[]) (by simp) hr
theorem xE {d:Option Tmp} {ty:TypeId} {pos:String} {aft:Array Edge} {g:Option (Nat×Bool)} {T:TypeId} {i0:Nat} {x0:Operand} {v0:Value} {r:Value} (h0:ev σ x0=some v0) (hr:∀w,(Instr.build T ([(i0,v0)]:List (Nat×Value)).toArray).run P w = .ok r w):Y P c n σ M L ⟨d,.build T #[(i0,x0)],ty,pos,aft,g⟩ r:=
 DZ (ps:=[(i0,x0)]) (vs:=[(i0,v0)]) (by simp[h0]) hr
theorem kY {d:Option Tmp} {ty:TypeId} {pos:String} {aft:Array Edge} {g:Option (Nat×Bool)} {T:TypeId} {i0 i1:Nat} {x0 x1:Operand} {v0 v1:Value} {r:Value} (h0:ev σ x0=some v0) (h1:ev σ x1=some v1) (hr:∀w,(Instr.build T ([(i0,v0),(i1,v1)]:List (Nat×Value)).toArray).run P w = .ok r w):Y P c n σ M L ⟨d,.build T #[(i0,x0),(i1,x1)],ty,pos,aft,g⟩ r:=
 DZ (ps:=[(i0,x0),(i1,x1)]) (vs:=[(i0,v0),(i1,v1)]) (by simp[h0,h1]) hr
theorem Uz {d:Option Tmp} {ty:TypeId} {pos:String} {aft:Array Edge} {g:Option (Nat×Bool)} {T:TypeId} {i0 i1 i2:Nat} {x0 x1 x2:Operand} {v0 v1 v2:Value} {r:Value} (h0:ev σ x0=some v0) (h1:ev σ x1=some v1) (h2:ev σ x2=some v2) (hr:∀w,(Instr.build T ([(i0,v0),(i1,v1),(i2,v2)]:List (Nat×Value)).toArray).run P w = .ok r w):Y P c n σ M L ⟨d,.build T #[(i0,x0),(i1,x1),(i2,x2)],ty,pos,aft,g⟩ r:=
 DZ (ps:=[(i0,x0),(i1,x1),(i2,x2)]) (vs:=[(i0,v0),(i1,v1),(i2,v2)]) (by simp[h0,h1,h2]) hr
theorem cL (cs:Array Value):(Value.agg cs).cells=cs:=rfl
end
section
variable {P:Program} {rd:Option Nat} {c:Ax} {n:Sz} {σ:Fr} {M L:List bX} {Q:Exit->Act->World->Prop} {l:List Oper} {m:List Nat} {k0:Nat} {H Bs:List (Nat×List bX×List bX)} {rest:List Nat}
theorem Ek {ops:Array Oper} {rest:List Oper} {d dj:Nat} {op:Op} {ty:TypeId} {pos:String} {aft:Array Edge} {j:Nat} {b:Bool}
  (hj:(ops[j]?).bind (·.dst)=some dj:=by exact rfl) (hg:lk σ dj=some undef:=by exact rfl) (hd:Nat.blt d n.sz=true:=by exact rfl) (h:J c n ((d,undef)::σ) M L (wpList P ops Q rest)):
  J c n σ M L (wpList P ops Q (⟨some d,op,ty,pos,aft,some (j,b)⟩::rest)):=fun a w s t=>by
 have hy:yielded ops a.tmps j=none:=by
  unfold yielded
  rw[hj,Option.bind_some,s.slot dj _ hg]
  rfl
 unfold wpList
 rw[if_neg (by simp[Region.wanted,hy])]
 exact h _ w (s.put d undef hd) t
theorem JR.open {r:List Nat} (e:List.range l.length=r) (h:JR c n σ M L H Bs (RW P l.toArray Q (before m) (eN l) k0 r)):JR c n σ M L H Bs (RW P l.toArray Q (before m) (eN l) k0 (List.range l.length)):=by rw[e];exact h
end
end
section
theorem MG {ops:Array Oper} {x y:Oper} (h:x.apart ops y=true):y.apart ops x=true:=by
 obtain⟨h1,h2,h3⟩:=Oper.apart_spec h
 unfold Oper.apart
 rw[Bool.and_eq_true]
 constructor
 ·cases hy:y.dst with
  |none=>rfl
  |some d=>
   have a:=h3 d hy
   have b:x.dst≠some d:=fun e=>h2 d e (by rw[hy])
   simp[a,b]
 ·cases hx:x.dst with
  |none=>rfl
  |some d=>simp[h1 d hx]
def Vk (l:List Oper) (m:List Nat) (k0:Nat):Bool:=
  (List.range l.length).all fun i=>match l[i]? with
    |none=>false
    | some o =>
      (uW o).all (fun e=>Nat.blt e i&&before m i e) &&
      (List.range l.length).all (fun k=> !before m i k||(Nat.blt k i&&(uW o).any (fun e=>Nat.beq e k||before m e k))) &&
      !Cb o.op &&
      (if Nat.ble k0 i then(List.range i).all (fun x=>before m i x)
       else(List.range i).all (fun x=>before m i x||(match l[x]? with|none=>false|some ox=>ox.apart l.toArray o)))
structure SC (l:List Oper) (m:List Nat) (k0:Nat):Prop where
 edge:∀(i:Nat) (o:Oper),l[i]? = some o->∀e∈uW o,e<i∧before m i e=true
 trans:∀(i:Nat) (o:Oper),l[i]? = some o->∀k,before m i k=true->k<l.length->k<i∧∃e∈uW o,e=k∨before m e k=true
 sel:∀(i:Nat) (o:Oper),l[i]? = some o->∀cs b,o.op ≠ .select cs b
 tail:∀i x,i<l.length->k0<=i->x<i->before m i x=true
 ind:∀(i x:Nat) (oi ox:Oper),l[i]? = some oi->l[x]? = some ox->i<k0->x<i->before m i x=false->ox.apart l.toArray oi=true
theorem Pa {l:List Oper} {m:List Nat} {k0:Nat} (h:Vk l m k0=true):SC l m k0:=by
  have key:∀(i:Nat) (o:Oper),l[i]? = some o->
      ((uW o).all (fun e=>Nat.blt e i&&before m i e)=true)∧
      ((List.range l.length).all (fun k=> !before m i k||(Nat.blt k i&&(uW o).any (fun e=>Nat.beq e k||before m e k)))=true)∧Cb o.op=false∧
      ((if Nat.ble k0 i then(List.range i).all (fun x=>before m i x)
       else(List.range i).all (fun x=>before m i x||(match l[x]? with|none=>false|some ox=>ox.apart l.toArray o)))=true):=by
    intro i o ho
    have:=List.all_eq_true.1 h i (List.mem_range.2 (bN ho))
    simp only[ho,Bool.and_eq_true,Bool.not_eq_true']at this
    exact⟨this.1.1.1,this.1.1.2,this.1.2,this.2⟩
  refine⟨?_,?_,?_,?_,?_⟩
  · intro i o ho e he
    have:=List.all_eq_true.1 (key i o ho).1 e he
    simp only[Bool.and_eq_true,Nat.blt_eq]at this
    exact this
  · intro i o ho k hk hlt
    have:=List.all_eq_true.1 (key i o ho).2.1 k (List.mem_range.2 hlt)
    simp only[hk,Bool.not_true,Bool.false_or,Bool.and_eq_true,Nat.blt_eq,List.any_eq_true,Bool.or_eq_true]at this
    obtain⟨h1,e,he,h2⟩:=this
    refine⟨h1,e,he,?_⟩
    rcases h2 with h2|h2
    · exact .inl (Nat.eq_of_beq_eq_true h2)
    · exact .inr h2
  · intro i o ho cs b e
    have:=(key i o ho).2.2.1
    rw[e]at this
    cases this
  · intro i x hi hk hx
    obtain⟨o,ho⟩:∃o,l[i]? = some o:=⟨_,List.getElem?_eq_getElem hi⟩
    have:=(key i o ho).2.2.2
    rw[if_pos (by simpa using hk)]at this
    exact List.all_eq_true.1 this x (List.mem_range.2 hx)
  · intro i x oi ox hi hx hk hlt hb
    have:=(key i oi hi).2.2.2
    rw[if_neg (by simpa using hk)]at this
    have:=List.all_eq_true.1 this x (List.mem_range.2 hlt)
    simp only[hb,Bool.false_or,hx]at this
    exact this
def Sv (l:List Oper):Array Bool->List Nat->Prop
 |listed,[]=>∀i,i<l.length->listed.getD i true=true
 |listed,i::s=>i∈Region.ready .any l.toArray listed∧Sv l (listed.setIfInBounds i true) s
def left (l:List Oper) (listed:Array Bool):List Nat:=(List.range l.length).filter fun i=> !listed.getD i true
theorem Ia {l:List Oper} {listed:Array Bool} {i:Nat}:i∈left l listed↔i<l.length∧listed.getD i true=false:=by
 unfold left
 rw[List.mem_filter,List.mem_range]
 constructor
 ·rintro⟨h1,h2⟩
  exact⟨h1,by simpa using h2⟩
 ·rintro⟨h1,h2⟩
  exact⟨h1,by rw[h2];rfl⟩
theorem Ro {l:List Oper} {listed:Array Bool} (hsz:listed.size=l.length) {i:Nat} (hi:i∈left l listed):(left l (listed.setIfInBounds i true)).length<(left l listed).length:=by
 have hlt:=(Ia.1 hi).1
 have:left l (listed.setIfInBounds i true)=(left l listed).filter (fun j=> !(j==i)):=by
  unfold left
  rw[List.filter_filter]
  apply List.filter_congr
  intro j hj
  by_cases e:i=j
  ·subst e;simp[hsz,hlt]
  ·rw[getD_set_ne true e]
   have:(j==i)=false:=by simpa using fun h=>e h.symm
   simp[this]
 rw[this]
 apply List.length_filter_lt_length_iff_exists.2
 exact⟨i,hi,by simp⟩
theorem VA {l:List Oper} {m:List Nat} {k0:Nat} (hc:SC l m k0):∀(fuel t:Nat) (listed:Array Bool),(left l listed).length<=fuel->listed.size=l.length->Sv l listed (Region.linearise.go .any l.toArray fuel t listed []):=by
 intro fuel
 induction fuel with
 | zero =>
  intro t listed hlen hsz
  simp only[Region.linearise.go,List.reverse_nil,Sv]
  intro i hi
  cases h:listed.getD i true with
  |true=>rfl
  |false=>
   have:=Ia.2 ⟨hi,h⟩
   have hnil:left l listed=[]:=List.eq_nil_of_length_eq_zero (by omega)
   rw[hnil]at this;simp at this
 | succ fuel ih =>
  intro t listed hlen hsz
  simp only[Region.linearise.go]
  change Sv l listed (match (Region.ready .any l.toArray listed)[t%(Region.ready .any l.toArray listed).length]? with
   |some i=>Region.linearise.go .any l.toArray fuel (t / (Region.ready .any l.toArray listed).length) (listed.setIfInBounds i true) [i]
   |none=>[].reverse)
  cases hi:(Region.ready .any l.toArray listed)[t%(Region.ready .any l.toArray listed).length]? with
  | none =>
   have hnil:Region.ready .any l.toArray listed=[]:=by
    cases hr:Region.ready .any l.toArray listed with
    |nil=>rfl
    |cons x xs=>
     rw[hr]at hi
     have hlt:t%(x::xs).length<(x::xs).length:=Nat.mod_lt _ (by simp)
     simp at hi
     simp at hlt
     omega
   simp only[List.reverse_nil,Sv]
   intro i
   induction i using Nat.strongRecOn with
   | _ i ihi =>
    intro hlt
    cases h:listed.getD i true with
    |true=>rfl
    | false =>
     exfalso
     obtain⟨o,ho⟩:∃o,l[i]? = some o:=⟨_,List.getElem?_eq_getElem hlt⟩
     have:i∈Region.ready .any l.toArray listed:=by
      refine mem_ready.2 ⟨h,o,by simpa using ho,fun e he hb=> ?_⟩
      have hee:e.on∈uW o:=List.mem_map.2 ⟨e,List.mem_filter.2 ⟨by simpa using he,hb⟩,rfl⟩
      have hei:=(hc.edge i o ho e.on hee).1
      have h1:=ihi e.on hei (by omega)
      have:e.on<listed.size:=by omega
      simp[this]at h1 ⊢
      exact h1
     rw[hnil]at this;simp at this
  |some i=>
   simp only[]
   rw[linearise_go_acc,List.reverse_singleton,List.singleton_append]
   have hir:=List.mem_of_getElem? hi
   refine⟨hir,ih _ _ ?_ (by simp[hsz])⟩
   obtain⟨h0,o,ho,_⟩:=mem_ready.1 hir
   have hil:i∈left l listed:=Ia.2 ⟨by have:=(Array.getElem?_eq_some_iff.1 ho).1;simpa using this,h0⟩
   have:=Ro hsz hil
   omega
section
variable {P:Program} {Q:Exit->Act->World->Prop} {l:List Oper} {m:List Nat} {k0:Nat}
theorem Qh (hc:SC l m k0):∀(s:List Nat) (L:List Nat) (listed:Array Bool) (a:Act) (w:World) (H:List (Nat×World)) (Bs:List (Nat×(World->Prop))),
  Sv l listed s->listed.size=l.length->L.Nodup->L.Pairwise (fun x i=>before m x i=false)->(∀i,i∈L↔i<l.length∧listed.getD i true=false)->
  (∀j k,listed.getD j false=true->before m j k=true->k<l.length->listed.getD k false=true)->L.filter (eN l)=s.filter (eN l)->
  RW P l.toArray Q (before m) (eN l) k0 L a w H Bs->IC P l.toArray Q s a w:=by
 intro s
 induction s with
 | nil =>
  intro L listed a w H Bs hlin hsz hnd hpw hmem hcl hf h
  have hL:L=[]:=by
   cases L with
   |nil=>rfl
   |cons i L=>
    have:=(hmem i).1 List.mem_cons_self
    rw[hlin i this.1]at this
    cases this.2
  subst hL
  exact h
 | cons i s ih =>
  intro L listed a w H Bs hlin hsz hnd hpw hmem hcl hf h
  obtain⟨hi,hlin'⟩:=hlin
  obtain⟨h0,o,ho',hedge⟩:=mem_ready.1 hi
  have ho:l[i]? = some o:=by simpa using ho'
  have hlt:i<l.length:=bN ho
  have hiL:i∈L:=(hmem i).2 ⟨hlt,h0⟩
  obtain⟨L1,L2,rfl⟩:=List.append_of_mem hiL
  have hnd':=List.nodup_append.1 hnd
  have hi1:i∉L1:=fun hx=>(hnd'.2.2 i hx i List.mem_cons_self) rfl
  have hi2:i∉L2:=(List.nodup_cons.1 hnd'.2.1).1
  have hpw':=List.pairwise_append.1 hpw
  have hL1:∀x∈L1,before m x i=false:=fun x hx=>hpw'.2.2 x hx i List.mem_cons_self
  have hanc:∀k,before m i k=true->k<l.length->listed.getD k false=true:=by
   intro k hk hkl
   obtain⟨_,e,he,hek⟩:=hc.trans i o ho k hk hkl
   obtain⟨ed,hed,rfl⟩:=List.mem_map.1 he
   obtain⟨hed1,hed2⟩:=List.mem_filter.1 hed
   have hl:=hedge ed (by simpa using hed1) hed2
   rcases hek with rfl|hek
   ·exact hl
   ·exact hcl _ _ hl hek hkl
  have hno:∀x∈L1,before m i x=false:=by
   intro x hx
   cases hb:before m i x with
   |false=>rfl
   |true=>
    have hxl:=((hmem x).1 (by simp[hx]))
    have:=hanc x hb hxl.1
    have hxs:x<listed.size:=by omega
    simp[hxs]at this hxl
    rw[this]at hxl
    simp at hxl
  have hloud:eN l i=true->∀x∈L1,eN l x=false:=by
   intro hli x hx
   rw[List.filter_append,List.filter_cons_of_pos hli,List.filter_cons_of_pos hli]at hf
   cases hlx:eN l x with
   |false=>rfl
   | true =>
    exfalso
    have hm:x∈L1.filter (eN l):=List.mem_filter.2 ⟨hx,hlx⟩
    cases hL:L1.filter (eN l)with
    |nil=>rw[hL]at hm;simp at hm
    |cons y ys=>
     rw[hL,List.cons_append]at hf
     have:y=i:=(List.cons.inj hf).1
     have hy:y∈L1.filter (eN l):=by rw[hL];exact List.mem_cons_self
     rw[this]at hy
     exact hi1 (List.mem_filter.1 hy).1
  have hf':(L1++L2).filter (eN l)=s.filter (eN l):=by
   rw[List.filter_append]at hf ⊢
   cases hli:eN l i with
   |false=>rw[List.filter_cons_of_neg (by rw[hli];simp),List.filter_cons_of_neg (by rw[hli];simp)]at hf;exact hf
   |true=>
    have hn:L1.filter (eN l)=[]:=List.filter_eq_nil_iff.2 (fun x hx=>by rw[hloud hli x hx];simp)
    rw[List.filter_cons_of_pos hli,List.filter_cons_of_pos hli,hn]at hf
    rw[hn]
    exact(List.cons.inj hf).2
  have next:∀a' w' H' Bs',RW P l.toArray Q (before m) (eN l) k0 (L1++L2) a' w' H' Bs'->IC P l.toArray Q s a' w':=by
   intro a' w' H' Bs' hr
   refine ih (L1++L2) _ a' w' H' Bs' hlin' (by simp[hsz]) ?_ ?_ ?_ ?_ hf' hr
   ·exact List.nodup_append.2 ⟨hnd'.1,(List.nodup_cons.1 hnd'.2.1).2,fun x hx y hy=>hnd'.2.2 x hx y (List.mem_cons_of_mem _ hy)⟩
   ·exact List.pairwise_append.2 ⟨hpw'.1,(List.pairwise_cons.1 hpw'.2.1).2,fun x hx y hy=>hpw'.2.2 x hx y (List.mem_cons_of_mem _ hy)⟩
   ·intro j
    by_cases e:i=j
    ·subst e
     constructor
     ·intro hj
      rcases List.mem_append.1 hj with hj|hj
      ·exact absurd hj hi1
      ·exact absurd hj hi2
     ·rintro⟨_,hj⟩
      simp[hsz,hlt]at hj
    ·rw[getD_set_ne true e]
     have:=hmem j
     simp only[List.mem_append,List.mem_cons]at this ⊢
     constructor
     ·intro hj;exact this.1 (by rcases hj with hj|hj;exact .inl hj;exact .inr (.inr hj))
     ·intro hj
      rcases this.2 hj with hj|rfl|hj
      ·exact .inl hj
      ·exact absurd rfl e
      ·exact .inr hj
   ·intro j k hj hjk hk
    by_cases e:i=j
    ·subst e;exact getD_set_true (hanc k hjk hk)
    ·rw[getD_set_ne false e]at hj
     exact getD_set_true (hcl j k hj hjk hk)
  have hoa:l.toArray[i]? = some o:=ho'
  rw[ND]
  have hxlen:∀x∈L1,x<l.length:=fun x hx=>((hmem x).1 (by simp[hx])).1
  by_cases hk:k0<=i
  ·have hL1e:L1=[]:=by
    cases L1 with
    |nil=>rfl
    |cons x L1=>
     exfalso
     have h1:=hno x List.mem_cons_self
     have h2:=hL1 x List.mem_cons_self
     have hx:=hxlen x List.mem_cons_self
     rcases Nat.lt_trichotomy x i with h'|h'|h'
     ·rw[hc.tail i x hlt hk h']at h1;cases h1
     ·exact hi1 (by rw[<-h'];exact List.mem_cons_self)
     ·rw[hc.tail x i hx (by omega) h']at h2;cases h2
   subst hL1e
   simp only[List.nil_append,RW,hoa]at h
   unfold wpOp
   simp only[hoa]
   split
   ·rename_i hw
    rw[if_pos hw]at h
    rcases h with⟨_,h|h⟩|⟨h,_⟩|⟨h,_⟩
    ·exact .inl (Oper.wp_mono (fun a' w' hr=>next a' w' _ _ hr) h)
    ·exact .inr (Oper.rnd_mono (fun a' w' hr=>next a' w' _ _ hr) h)
    ·omega
    ·omega
   ·rename_i hw
    rw[if_neg hw]at h
    exact next _ _ _ _ h
  ·have hik:i<k0:=by omega
   have hind:∀x∈L1,I_ l.toArray (before m) (eN l) x i∧x<k0:=by
    intro x hx
    have hxl:=hxlen x hx
    obtain⟨ox,hox⟩:∃ox,l[x]? = some ox:=⟨_,List.getElem?_eq_getElem hxl⟩
    have hxk:x<k0:=by
     rcases Nat.lt_or_ge x k0 with h'|h'
     ·exact h'
     ·have:=hL1 x hx
      rw[hc.tail x i hxl h' (by omega)]at this;cases this
    have hap:ox.apart l.toArray o=true:=by
     rcases Nat.lt_trichotomy x i with h'|h'|h'
     ·exact hc.ind i x o ox ho hox hik h' (hno x hx)
     ·exact absurd (by rw[<-h'];exact hx) hi1
     ·exact MG (hc.ind x i ox o hox ho hxk h' (hL1 x hx))
    refine⟨⟨hno x hx,hL1 x hx,?_,?_⟩,hxk⟩
    ·intro ox' oi' h1 h2
     have e1:ox=ox':=by simpa [hox]using h1
     have e2:o=oi':=by simpa [ho]using h2
     rw[<-e1,<-e2];exact hap
    ·cases hli:eN l i with
     |false=>exact .inr rfl
     |true=>exact .inl (hloud hli x hx)
   have hsel:∀(i:Nat) (o:Oper),l.toArray[i]? = some o->∀cs b,o.op ≠ .select cs b:=fun i o h=>hc.sel i o (by simpa using h)
   unfold wpOp
   simp only[hoa]
   cases hl:eN l i with
   | false =>
    rcases Eu hsel hoa hik hl L1 a w H Bs hind h with⟨h1,h2⟩|⟨h1,v,B,⟨hb,_,hr⟩,h2⟩
    ·rw[h1];exact next _ _ _ _ h2
    ·rw[h1]
     exact .inl (by simp only[Oper.wp,hr w hb,Oper.upon];exact next _ _ _ _ h2)
   | true =>
    rcases Ff hsel hoa hik hl L1 a w H Bs hind h with⟨h1,h2⟩|⟨h1,h2⟩
    ·rw[h1];exact next _ _ _ _ h2
    ·rw[h1]
     exact .inl (If (oP (fun a' w' hh=>next a' w' _ _ hh.2) h2))
def HV (x:Nat):List Nat->List (List Nat)
 | []=>[[x]]
 |y::ys=>(x::y::ys)::(HV x ys).map (y::·)
def BZ:List Nat->List (List Nat)
 | []=>[[]]
 |x::xs=>(BZ xs).flatMap (HV x)
theorem H_ (x:Nat) (b:List Nat):∀a:List Nat,a++x::b∈HV x (a++b)
 | []=>by cases b<;>simp[HV]
 |y::a=>by
  simp only[List.cons_append,HV,List.mem_cons,List.mem_map]
  exact .inr ⟨_,H_ x b a,rfl⟩
theorem Ez:∀(l s:List Nat),s.Perm l->s∈BZ l
 | [],s,h=>by simp[BZ,h.eq_nil]
 | x :: l, s, h => by
  have hx:x∈s:=h.symm.subset List.mem_cons_self
  obtain⟨a,b,rfl⟩:=List.append_of_mem hx
  have h2:(a++b).Perm l:=by
   have:(x::(a++b)).Perm (x::l):=(List.perm_middle.symm).trans h
   exact(List.perm_cons x).1 this
  simp only[BZ,List.mem_flatMap]
  exact⟨a++b,Ez l _ h2,H_ x b a⟩
def pw (m:List Nat):List Nat->Bool
 | []=>true
 |x::L=>L.all (fun i=> !before m x i && !Nat.beq x i)&&pw m L
theorem Om (m:List Nat):∀L:List Nat,pw m L=true->L.Nodup∧L.Pairwise (fun x i=>before m x i=false)
 | [],_=>⟨List.nodup_nil,List.Pairwise.nil⟩
 |x::L,h=>by
  simp only[pw,Bool.and_eq_true]at h
  obtain⟨h1,h2⟩:=Om m L h.2
  have h3:=List.all_eq_true.1 h.1
  refine⟨List.nodup_cons.2 ⟨fun hx=> ?_,h1⟩,List.pairwise_cons.2 ⟨fun i hi=> ?_,h2⟩⟩
  ·have:=h3 x hx;simp at this
  ·have:=h3 i hi;simp only[Bool.and_eq_true,Bool.not_eq_true']at this;exact this.1
def QR (l:List Oper) (m:List Nat) (LL:List (List Nat)):Bool:=
 (LL.all fun L=>pw m L&&L.all (fun i=>Nat.blt i l.length)&&(List.range l.length).all (fun i=>L.contains i)) &&
 ((BZ ((List.range l.length).filter (eN l))).all fun s=> !pw m s||LL.any fun L=>L.filter (eN l)==s)
theorem Jb {hc:SC l m k0}:∀(s:List Nat) (listed:Array Bool),listed.size=l.length->Sv l listed s->
  (∀j k,listed.getD j false=true->before m j k=true->k<l.length->listed.getD k false=true)->
  s.Nodup∧(∀i,i∈s↔i<l.length∧listed.getD i true=false)∧s.Pairwise (fun x i=>before m x i=false)
 | [],listed,_,h,_=>⟨List.nodup_nil,fun i=>⟨fun hi=>by simp at hi,fun⟨h1,h2⟩=>by rw[h i h1]at h2;cases h2⟩,List.Pairwise.nil⟩
 | i :: s, listed, hsz, h, hcl => by
  obtain⟨hr,hl⟩:=h
  obtain⟨h0,o,ho',hedge⟩:=mem_ready.1 hr
  have ho:l[i]? = some o:=by simpa using ho'
  have hlt:=bN ho
  have hanc:∀k,before m i k=true->k<l.length->listed.getD k false=true:=by
   intro k hk hkl
   obtain⟨_,e,he,hek⟩:=hc.trans i o ho k hk hkl
   obtain⟨ed,hed,rfl⟩:=List.mem_map.1 he
   obtain⟨hed1,hed2⟩:=List.mem_filter.1 hed
   have hl:=hedge ed (by simpa using hed1) hed2
   rcases hek with rfl|hek
   ·exact hl
   ·exact hcl _ _ hl hek hkl
  obtain⟨h1,h2,h3⟩:=Jb (hc:=hc) s (listed.setIfInBounds i true) (by simp[hsz]) hl (fun j k hj hjk hk=>by
   by_cases e:i=j
   ·subst e;exact getD_set_true (hanc k hjk hk)
   ·rw[getD_set_ne false e]at hj
    exact getD_set_true (hcl j k hj hjk hk))
  have hni:i∉s:=fun hi=>by
   have:=((h2 i).1 hi).2
   simp[hsz,hlt]at this
  refine⟨List.nodup_cons.2 ⟨hni,h1⟩,fun j=> ?_,List.pairwise_cons.2 ⟨fun x hx=> ?_,h3⟩⟩
  ·by_cases e:i=j
   ·subst e;simp[hlt,h0]
   ·rw[List.mem_cons,h2 j,getD_set_ne true e]
    constructor
    ·rintro(h|h)
     ·exact absurd h.symm e
     ·exact h
    ·exact fun h=> .inr h
  ·cases hb:before m i x with
   |false=>rfl
   |true=>
    have hxs:=(h2 x).1 hx
    have hxi:i≠x:=fun e=>hni (e▸hx)
    rw[getD_set_ne true hxi]at hxs
    have:=hanc x hb hxs.1
    have hlt':x<listed.size:=by omega
    simp[hlt']at this hxs
    rw[this]at hxs
    simp at hxs
theorem GE {rd:Option Nat} {id:Nat} {a:Act} {w:World} (LL:List (List Nat)) (hd:l.all iS=true) (hm:P.follows .mixedOrders=true) (hc:Vk l m k0=true) (hv:QR l m LL=true)
  (h:∀L∈LL,RW P l.toArray Q (before m) (eN l) k0 L a w.drew [] []):(Code.region id l.toArray true).wpr rd P Q a w:=by
 refine Hf hd fun t=> ?_
 have hcc:=Pa hc
 simp only[Region.schedule,hm,Bool.true_or,if_true,Region.linearise]
 have h0:∀i,i<l.length->(Array.replicate l.toArray.size false).getD i true=false:=fun i hi=>by simp[hi]
 have hcl:∀j k,(Array.replicate l.toArray.size false).getD j false=true->before m j k=true->k<l.length->(Array.replicate l.toArray.size false).getD k false=true:=by
  intro j k hj
  simp[Array.getElem?_replicate]at hj
  split at hj<;>simp at hj
 have hlin:=VA hcc l.toArray.size t (Array.replicate l.toArray.size false) (by unfold left;exact Nat.le_trans (List.length_filter_le _ _) (by simp)) (by simp)
 generalize Region.linearise.go .any l.toArray l.toArray.size t (Array.replicate l.toArray.size false) []=s at hlin
 obtain⟨hn,hmem,hp⟩:=Jb (hc:=hcc) s _ (by simp) hlin hcl
 simp only[QR,Bool.and_eq_true]at hv
 have hperm:s.Perm (List.range l.length):=by
  refine(List.perm_ext_iff_of_nodup hn List.nodup_range).2 fun i=> ?_
  rw[hmem i,List.mem_range]
  exact⟨fun h=>h.1,fun h=>⟨h,h0 i h⟩⟩
 have hso:=Ez _ _ (hperm.filter (eN l))
 have h2:=List.all_eq_true.1 hv.2 _ hso
 have hpws:pw m (s.filter (eN l))=true:=by
  have hn':(s.filter (eN l)).Nodup:=List.Pairwise.filter _ hn
  have hp':(s.filter (eN l)).Pairwise (fun x i=>before m x i=false):=List.Pairwise.filter _ hp
  generalize s.filter (eN l)=q at hn' hp'
  induction q with
  |nil=>rfl
  |cons x q ihq=>
   have a1:=List.nodup_cons.1 hn'
   have a2:=List.pairwise_cons.1 hp'
   simp only[pw,Bool.and_eq_true,List.all_eq_true,Bool.not_eq_true']
   refine⟨fun i hi=>⟨a2.1 i hi,nX (fun e=>a1.1 (e▸hi))⟩,ihq a1.2 a2.2⟩
 rw[hpws]at h2
 simp only[Bool.not_true,Bool.false_or,List.any_eq_true]at h2
 obtain⟨L,hL,he⟩:=h2
 have hLv:=List.all_eq_true.1 hv.1 L hL
 simp only[Bool.and_eq_true,List.all_eq_true,Nat.blt_eq,List.mem_range,List.contains_iff_mem]at hLv
 obtain⟨hLn,hLp⟩:=Om m L hLv.1.1
 exact Qh hcc s L _ a _ [] [] hlin (by simp) hLn hLp (fun i=>⟨fun hi=>⟨hLv.1.2 i hi,h0 i (hLv.1.2 i hi)⟩,fun hi=>hLv.2 i hi.1⟩) hcl (by simpa using he) (h L hL)
theorem BU {rd:Option Nat} {c:Ax} {n:Sz} {σ:Fr} {M L:List bX} {id:Nat} (m:List Nat) (k0:Nat) (LL:List (List Nat)) (hm:P.follows .mixedOrders=true) (hc:Vk l m k0=true) (hv:QR l m LL=true)
  (h:∀o∈LL,JR c n σ M L [] [] (RW P l.toArray Q (before m) (eN l) k0 o)) (hd:l.all iS=true:=by rfl):J c n σ M L ((Code.region id l.toArray true).wpr rd P Q):=fun a w s t=>
 GE LL hd hm hc hv fun o ho=>h o ho a w.drew [] [] s (t.ext ((Below.refl _ _).drew)) trivial trivial
end
end
end Go.Sx
end
section
set_option maxRecDepth 100000
namespace Go.Sx
open Go.RowKit Go.ChangeShapes Go.WideShapes Go.ChangeAt Go.Proofs Go.Joins
theorem own0:ownKnob Tryz.prog.godebug=none:=by kernel_rfl
theorem WO:laidOutB Tryz.prog=true:=by kernel_rfl
section
variable {H:Type} {enc:TypeId×Value->H} {P:Program}
theorem EH (hl:laidOutB P=true) {W W':World} (hb:Ml W W'):∀(ts:List TypeId) (vs:List Value) (ds:List (DataW H)) (p:List MemPlace),(ts.all fun t=>P.readableRec t&&decide (t<P.types.size))=true->
  DataW.TrodAll enc P W 0 (fun _=>true) true ts vs ds p->(∀x∈p,x.block<W.heap.size)->DataW.TrodAll enc P W' 0 (fun b=>decide (b<W.heap.size)) true ts vs ds p
 | [],[],[],_,_,h,_=>h
 |t::ts,v::vs,d::ds,ps,hr,h,hlt=>by
  obtain⟨p,q,h1,h2,rfl⟩:=h
  simp only[List.all_cons,Bool.and_eq_true,decide_eq_true_eq]at hr
  exact⟨p,q,Below.trod hl hr.1.1 hr.1.2 h1 hb (fun x hx=>hlt x (List.mem_append_left _ hx)),EH hl hb ts vs ds q (by simpa using hr.2) h2 (fun x hx=>hlt x (List.mem_append_right _ hx)),rfl⟩
 | [],[],_::_,_,_,h,_=>h.elim
 | [],_::_,_,_,_,h,_=>h.elim
 |_::_,[],_,_,_,h,_=>h.elim
 |_::_,_::_,[],_,_,h,_=>h.elim
theorem Nf {os:Os} (started:os.Started) {f:FuncId} {fn:Func} {s:ChangeSpec} {r:Bool} (hfn:Tryz.prog.funcs[f]? = some fn) (noInit:Tryz.prog.inits.idxOf? f=none)
  (hread:(fn.params.toList.all fun t=>Tryz.prog.readableRec t&&decide (t<Tryz.prog.types.size))=true) (hres:fn.resultTypes = #[4]) (hvars:s.vars=[])
  (hspec:∀ds:List (DataW H),ds.length=fn.params.toList.length->s.fn H ds={results:=[.lit (.bool true)],args:=ds})
  (witness:∃(w:World) (tape:Tape) (i:Input),w.os=os∧(w.forCall tape i).Shaped Tryz.prog∧i.vars=[]∧Input.okWide Tryz.prog (w.forCall tape i) .any w.heap.size f i∧
   s.pre6 enc Tryz.prog fn [] false (w.forCall tape i).memory i.args∧({}:Assume).holds Tryz.prog (lone (Frame.enter Tryz.prog f i.args .normal) [] (w.forCall tape i)))
  (main:∀(W:World) (base:Nat) (args:Array Value) (ds:List (DataW H)) (p:List MemPlace),(∀(j:Nat) t v,fn.params[j]? = some t->args[j]? = some v->Value.okWide Tryz.prog W .any base t v)->
   DataW.TrodAll enc Tryz.prog W 0 (fun _=>true) true fn.params.toList args.toList ds p->Calls Tryz.prog f args W fun e W'=>e = .returned (.bool true)∧Ml W W'):
  ReturnsInHanded {} Go.Proofs.YthnplbmmlbnelaaGreat.Tryz.pinned.checked os f .any (s.pre6 enc Tryz.prog fn [] false) (s.post enc Tryz.prog fn false r false false):=by
 refine returnsInHanded_of_change (C:=Go.Proofs.YthnplbmmlbnelaaGreat.Tryz.pinned.checked) own0 started noInit hfn witness ?_
 intro W base args ds gs before hval hW _ _
 have hlt:=hW.lt
 have hW':=hW
 obtain⟨p,q,hA,hV,rfl,_,_⟩:=hW
 rw[hvars]at hV
 obtain⟨rfl,rfl⟩:=trodVars_none hV
 refine(main W base args ds p hval hA).mono ?_
 rintro e W' ⟨rfl,hb⟩
 refine⟨_,rfl,?_⟩
 have hlen:ds.length=fn.params.toList.length:=by
  have:∀(ts:List TypeId) (vs:List Value) (ds:List (DataW H)) (p:List MemPlace),DataW.TrodAll enc Tryz.prog W 0 (fun _=>true) true ts vs ds p->ds.length=ts.length:=by
   intro ts
   induction ts with
   |nil=>intro vs ds p h;cases vs<;>cases ds<;>first|rfl|exact h.elim
   | cons t ts ih =>
    intro vs ds p h
    cases vs with
    |nil=>exact h.elim
    |cons v vs=>
     cases ds with
     |nil=>exact h.elim
     |cons d ds=>obtain⟨_,_,_,h2,_⟩:=h;simp[ih vs ds _ h2]
  exact this _ _ _ _ hA
 have hs:s.fn H (ds++[])={results:=[.lit (.bool true)],args:=ds}:=by rw[List.append_nil];exact hspec ds hlen
 refine⟨ds,[],p++[],[],p,[],hW',?_,?_,?_,hb.frame _,fun h=>by cases h⟩
 ·rw[hs,hres]
  exact trodAll_mk1 (shut_bool Tryz.underlying4 true)
 ·rw[hs]
  exact EH WO hb _ _ _ _ hread hA (fun x hx=>hlt x (List.mem_append_left _ hx))
 rw[hs,hvars];exact rfl
theorem HK {f:FuncId} {args:Array Value} {L:List bX} {W:World} (h:bQ Tryz.prog f args L (fun _:Unit=> .bool true) (fun _ l=>l) (fun _ l=>l)) (hL:∀g∈L,g.p W (fun _=>True)):
  Calls Tryz.prog f args W fun e W'=>e = .returned (.bool true)∧Ml W W':=
 (h W (fun _=>True) hL).mono fun _ _ ⟨_,he,ht⟩=>⟨he,ht.old.ext⟩
variable {w:World} {base:Nat} {spare:Nat->Bool} {held:Bool}
theorem O_ {A:Addr} {k:Nat} {cs:List Value} (h:w.cells? base A k=some cs):cs.length=k∧∀(j:Nat) (u:Value),cs[j]? = some u->w.cell? (A.add j)=some u:=by
 obtain⟨_,h1,h2⟩:=World.cells?_some h
 refine⟨h1,fun j u hu=>?_⟩
 have hj:=bN hu
 rw[h2 j (by omega)];exact hu
theorem Bl {α:Type} (r:kJ α) {t e:TypeId} (ht:P.underlying t=some (.slice e)) (hc:P.cellsOf e=r.sz)
  (hel:∀(n:Nat) (cs:List Value) (x:DataW H×List MemPlace),DataW.trod enc P w base spare held n e cs=some x->∃y:α,r.R w (fun _=>True) cs y)
  {U:Nat} {v:Value} {x:DataW H×List MemPlace} (h:DataW.trod enc P w base spare held U t [v]=some x):∃xs:List α,El r w (fun _=>True) v xs:=by
 rcases Deep.open_slice ht h with⟨hv,_⟩|⟨a,len,cap,m,n,D,Pl,hv,hb,hl,hm,hmm,_,hx⟩
 ·cases hv
  exact⟨[],none,0,rfl,by simp,.inl rfl⟩
 cases hv
 have hle:len<=m:=by rw[hmm];split<;>omega
 by_cases h0:len=0
 ·subst h0
  exact⟨[],some a,cap,rfl,by simp,.inl rfl⟩
 -- the elements,chosen one by one
 have key:∀k,k<=len->∃xs:List α,xs.length=k∧∀i y,xs[i]? = some y->∃es,(∀(j:Nat) (u:Value),es[j]? = some u->w.cell? ((a.add (i*P.cellsOf e)).add j)=some u)∧r.R w (fun _=>True) es y:=by
  intro k
  induction k with
  |zero=>exact fun _=>⟨[],rfl,fun i y hy=>by simp at hy⟩
  | succ k ih =>
   intro hk
   obtain⟨xs,h1,h2⟩:=ih (by omega)
   obtain⟨cs',hcs,htr⟩:=hx k (by omega)
   obtain⟨y,hy⟩:=hel n cs' _ htr
   refine⟨xs++[y],by simp[h1],fun i y' hi=>?_⟩
   by_cases e':i<xs.length
   ·rw[List.getElem?_append_left e']at hi;exact h2 i y' hi
   have hik:i=k:=by
    have:=bN hi
    simp at this;omega
   subst hik
   rw[List.getElem?_append_right (by omega),h1,Nat.sub_self]at hi
   simp at hi;subst hi
   exact⟨cs',(O_ hcs).2,hy⟩
 obtain⟨xs,h1,h2⟩:=key len (Nat.le_refl _)
 have hspot:a.spot=none:=by
  obtain⟨es,he,hr⟩:=h2 0 (xs[0]'(by omega)) (List.getElem?_eq_getElem _)
  have hlen:=r.len hr
  have hpos:=r.pos
  have:=he 0 (es[0]'(by omega)) (List.getElem?_eq_getElem _)
  rw[Nat.zero_mul]at this
  have e0:(a.add 0).add 0=a:=rfl
  rw[e0]at this
  unfold World.cell? at this
  split at this
  ·split at this
   ·cases this
   rename_i h';simpa using h'
  cases this
 obtain⟨b,off,sp⟩:=a
 simp only at hspot
 subst hspot
 refine⟨xs,some ⟨b,off,none⟩,cap,by rw[h1],?_,.inr ⟨b,off,rfl,trivial,fun i y hy=>?_⟩⟩
 ·have:maxLen=9223372036854775807:=rfl
  exact⟨by omega,by omega⟩
 obtain⟨es,he,hr⟩:=h2 i y hy
 refine⟨es,fun j u hu=>?_,hr⟩
 have:=he j u hu
 rw[fM,fM,hc]at this
 rwa[Nat.add_assoc]at this
theorem Du {k:IntKind} {e:TypeId} (he:P.underlying e=some (.int k)) (n:Nat) (cs:List Value) (x:DataW H×List MemPlace) (h:DataW.trod enc P w base spare held n e cs=some x):∃y:Int,(kJ.int k).R w (fun _=>True) cs y:=by
 obtain⟨y,hy,_,_⟩:=DataW.trod_int he h
 exact⟨y,hy⟩
theorem WH {α:Type} (r:kJ α) {t e:TypeId} (ht:P.underlying t=some (.slice e)) (hc:P.cellsOf e=r.sz)
  (hel:∀(n:Nat) (cs:List Value) (x:DataW H×List MemPlace),DataW.trod enc P w base spare held n e cs=some x->∃y:α,r.R w (fun _=>True) cs y)
  (n:Nat) (cs:List Value) (x:DataW H×List MemPlace) (h:DataW.trod enc P w base spare held n t cs=some x):∃y:Value×List α,(kJ.sl r).R w (fun _=>True) cs y:=by
 have:∃v,cs=[v]:=by
  rcases Deep.open_slice ht h with⟨hv,_⟩|⟨a,len,cap,m,n,D,Pl,hv,_⟩
  ·exact⟨_,hv⟩
  exact⟨_,hv⟩
 obtain⟨v,rfl⟩:=this
 obtain⟨xs,hxs⟩:=Bl r ht hc hel h
 exact⟨(v,xs),rfl,hxs⟩
end
end Go.Sx
end
section
namespace Go.Sx
open Go.RowKit
section
def ck {β:Type} (p:Prop) [Decidable p] (x:Option β):Option β:=if p then x else none
theorem Eb {β:Type} {p:Prop} [Decidable p] {x:Option β} {r:β} (h:ck p x=some r):p∧x=some r:=by
 unfold ck at h
 by_cases hp:p
 ·rw[if_pos hp]at h;exact⟨hp,h⟩
 ·rw[if_neg hp]at h;cases h
theorem BK {β:Type} {p:Prop} [Decidable p] {x y:Option β} {r:β} (hp:p) (h:(if p then x else y)=some r):x=some r:=by rwa[if_pos hp]at h
theorem Wp {β:Type} {p:Prop} [Decidable p] {x y:Option β} {r:β} (hp:¬p) (h:(if p then x else y)=some r):y=some r:=by rwa[if_neg hp]at h
theorem sM {β:Type} {b:Bool} {x y:Option β} {r:β} (hp:b=false) (h:(if b=true then x else y)=some r):y=some r:=by
 rwa[if_neg (by simp[hp])]at h
theorem bnd {β γ:Type} {x:Option β} {f:β->Option γ} {r:γ} (h:x.bind f=some r):∃y,x=some y∧f y=some r:=Option.bind_eq_some_iff.1 h
def bZ {X R:Type} (step:X->(X->Option R)->Option R):Nat->X->Option R
 |0,_=>none
 |k+1,x=>step x (bZ step k)
def aM (M L:List bX) (g:bX):Prop:=∀(w:World) (S:Nat->Prop) (T:Nat->Nat->Prop) (U:Nat->Prop),(∀f∈L,f.p w S)->(∀(i:Nat) (m:bX),M[i]? = some m->m.p w (T i))->(∀k,S k->U k)->(∀i k,T i k->U k)->g.p w U
section
variable {M L:List bX} {α β:Type} {e:nV α} {r:kJ α} {v:Value}
theorem bX.wide {f:bX} {w:World} {S U:Nat->Prop} (h:f.p w S) (hS:∀k,S k->U k):f.p w U:=f.mono h fun k hk _=>⟨hS k hk,rfl⟩
theorem bV {g:bX} (j:Nat) (h:L[j]? = some g):aM M L g:=fun _ _ _ _ hL _ hS _=>bX.wide (hL g (List.mem_of_getElem? h)) hS
theorem aM.res {m:bX} (i:Nat) (h:M[i]? = some m):aM M L m:=fun _ _ _ _ _ hM _ hT=>bX.wide (hM i m h) (hT i)
theorem aM.mono {f g:bX} (h:aM M L f) (hfg:∀{w U},f.p w U->g.p w U):aM M L g:=fun w S T U hL hM hS hT=>hfg (h w S T U hL hM hS hT)
theorem aM.ar {xs:List α} (h:aM M L (Ar e v xs)) (hfit:e.Fits r):aM M L (Sl r v xs):=h.mono fun h=>DY.sl hfit h
theorem aM.nil:aM M L (Sl r (.slice none 0 0) []):=fun _ _ _ _ _ _ _ _=>⟨none,0,rfl,by simp,.inl rfl⟩
def Sn {β:Type} (r:kJ α) (er:α->β) (v:Value) (zs:List α) (xs:List β):bX where
 p w S:=El r w S v zs∧zs.map er=xs
 mono:=fun h e=>⟨h.1.mono e,h.2⟩
abbrev S2 (r:kJ α) (v:Value) (zs:List (Value×List α)) (xss:List (List α)):bX:=Sn (kJ.sl r) (fun z=>z.2) v zs xss
theorem aM.sl {er:α->β} {zs:List α} {xs:List β} (h:aM M L (Sn r er v zs xs)):aM M L (Sl r v zs):=h.mono fun h=>h.1
theorem SJ [Inhabited α] [Inhabited β] (f:α->β) {zs:List α} {i:Int} (h0:0<=i) (h1:i<zs.length):at' (zs.map f) i=f (at' zs i):=by
 have h:=pT h0 h1
 have h':=pT (xs:=zs.map f) h0 (by simpa using h1)
 rw[List.getElem?_map,h]at h'
 simpa using h'.symm
theorem aM.el {zs:List (Value×List α)} {xss:List (List α)} {i:Int} (h:aM M L (S2 r v zs xss)) (h0:0<=i) (h1:i<xss.length):aM M L (Sl r (at' zs i).1 (at' xss i)):=h.mono fun {w U} h=>by
 obtain⟨h,he⟩:=h
 have hl:i<zs.length:=by rw[<-he]at h1;simpa using h1
 obtain⟨es,hr,_⟩:=sl_cell h (pT h0 hl)
 rw[<-he,SJ _ h0 hl]
 exact hr.2
theorem aM.st {c:Ax} {w:World} {g:bX} (h:aM M L g) (t:St c M L w):∃S,g.p w S:=by
 obtain⟨_,F,hF,hL⟩:=t
 exact⟨fun _=>True,h w (BS c F) F (fun _=>True) hL hF.res (fun _ _=>trivial) (fun _ _ _=>trivial)⟩
end
section
variable {P:Program} {rd:Option Nat} {c:Ax} {n:Sz} {σ:Fr} {M L:List bX} {Q:Exit->Act->World->Prop} {ops:Array Oper} {rest:List Oper}
variable {d:Option Tmp} {D:Nat} {ty:TypeId} {pos:String} {aft:Array Edge} {g:Option (Nat×Bool)}
variable {α β:Type} {e:nV α} {r:kJ α}
theorem dR [eM P] {T E:TypeId} {s1 s2:Nat} {z:Value} {x:Operand} {v:Value} {xs:List α} (hx:ev σ x=some v) (hf:aM M L (Sl r v xs))
  (hT:eM.tab P T=some ⟨.slice E,s1,s2,z⟩):Y P c n σ M L ⟨d,.call ⟨.builtin .len,#[x],#[T]⟩,ty,pos,aft,g⟩ (.int .i64 xs.length):=fun a w s t=>by
 obtain⟨S,a',cap,hv,_,_⟩:=hf.st t
 subst hv
 simp[execOp,resolve,invoke,builtin,s.eval hx,KD w (eM.ok hT) rfl]
theorem JO [eM P] {T E:TypeId} {s1 s2:Nat} {z:Value} {x:Operand} {v:Value} {er:α->β} {zs:List α} {xs:List β} (hx:ev σ x=some v) (hf:aM M L (Sn r er v zs xs))
  (hT:eM.tab P T=some ⟨.slice E,s1,s2,z⟩):Y P c n σ M L ⟨d,.call ⟨.builtin .len,#[x],#[T]⟩,ty,pos,aft,g⟩ (.int .i64 xs.length):=fun a w s t=>by
 obtain⟨_,_,h⟩:=hf.st t
 rw[<-h,List.length_map]
 exact dR hx hf.sl hT a w s t
theorem a_ [eM P] {T E:TypeId} {s1 s2 s3 s4:Nat} {z z':Value} {dE:TypeDesc} {x y:Operand} {v:Value} {i:Int} {xs:List α} (hx:ev σ x=some v) (hy:ev σ y=some (.int .i64 i)) (hf:aM M L (Sl r v xs))
  (hT:eM.tab P T=some ⟨.slice E,s1,s2,z⟩) (hE:eM.tab P E=some ⟨dE,s3,s4,z'⟩) (h:0<=i∧i<xs.length):
  Y P c n σ M L ⟨d,.indexAddr T x y,ty,pos,aft,g⟩ (HN v (i.toNat*s3)):=fun a w s t=>by
 obtain⟨h0,h1⟩:=h
 obtain⟨S,a',cap,hv,_,h⟩:=hf.st t
 rcases h with h|⟨b,off,rfl,_,_⟩
 ·subst h;simp at h1;omega
 ·subst hv
  simp[execOp,s.eval hx,s.eval hy,PD w (eM.ok hT) rfl (eM.ok hE) b off _ cap i h0 h1]
theorem Sn.len {w:World} {S:Nat->Prop} {v:Value} {er:α->β} {zs:List α} {xs:List β} (h:(Sn r er v zs xs).p w S):zs.length=xs.length:=by rw[<-h.2];simp
theorem Fl [eM P] {T E:TypeId} {s1 s2 s3 s4:Nat} {z z':Value} {dE:TypeDesc} {x y:Operand} {v:Value} {i:Int} {er:α->β} {zs:List α} {xs:List β} (hx:ev σ x=some v) (hy:ev σ y=some (.int .i64 i)) (hf:aM M L (Sn r er v zs xs))
  (hT:eM.tab P T=some ⟨.slice E,s1,s2,z⟩) (hE:eM.tab P E=some ⟨dE,s3,s4,z'⟩) (h:0<=i∧i<xs.length):
  Y P c n σ M L ⟨d,.indexAddr T x y,ty,pos,aft,g⟩ (HN v (i.toNat*s3)):=fun a w s t=>by
 obtain⟨_,h'⟩:=hf.st t
 exact a_ hx hy hf.sl hT hE (by rw[Sn.len h'];exact h) a w s t
theorem fN [eM P] [Inhabited α] {T:TypeId} {s1 s2 q o:Nat} {z:Value} {dT:TypeDesc} {x:Operand} {v:Value} {i:Int} {xs:List α} {f:α->Value} (hx:ev σ x=some (HN v (i.toNat*q+o))) (hf:aM M L (Sl r v xs))
  (hT:eM.tab P T=some ⟨dT,s1,s2,z⟩) (hd:Bb dT=false) (hs:r.sz=q) (hc:r.Cell o f) (h:0<=i∧i<xs.length):
  Y P c n σ M L ⟨d,.load T x,ty,pos,aft,g⟩ (f (at' xs i)):=fun a w s t=>by
 obtain⟨h0,h1⟩:=h
 obtain⟨S,h⟩:=hf.st t
 obtain⟨es,hr,hes⟩:=sl_cell h (pT h0 h1)
 have:=hes o _ (hc hr)
 rw[hs]at this
 simp[execOp,s.eval hx,HN,Cg (eM.ok hT) hd this]
theorem iN [eM P] [Inhabited α] {T:TypeId} {s1 s2 q:Nat} {z:Value} {dT:TypeDesc} {x:Operand} {v:Value} {i:Int} {xs:List α} {f:α->Value} (hx:ev σ x=some (HN v (i.toNat*q))) (hf:aM M L (Sl r v xs))
  (hT:eM.tab P T=some ⟨dT,s1,s2,z⟩) (hd:Bb dT=false) (hs:r.sz=q) (hc:r.Cell 0 f) (h:0<=i∧i<xs.length):
  Y P c n σ M L ⟨d,.load T x,ty,pos,aft,g⟩ (f (at' xs i)):=fN (o:=0) hx hf hT hd hs hc h
theorem D_ [eM P] {T:TypeId} {s1 s2:Nat} {z:Value} {dT:TypeDesc} {x:Operand} {v:Value} {i:Int} {zs:List (Value×List α)} {xss:List (List α)} (hx:ev σ x=some (HN v (i.toNat*1))) (hf:aM M L (S2 r v zs xss))
  (hT:eM.tab P T=some ⟨dT,s1,s2,z⟩) (hd:Bb dT=false) (h:0<=i∧i<xss.length):
  Y P c n σ M L ⟨d,.load T x,ty,pos,aft,g⟩ (at' zs i).1:=fun a w s t=>by
 obtain⟨_,h'⟩:=hf.st t
 exact iN (r:=kJ.sl r) (f:=fun z=>z.1) hx hf.sl hT hd rfl (kJ.sl_cell r) (by rw[Sn.len h'];exact h) a w s t
theorem gI [eM P] [Inhabited α] {T:TypeId} {s2 q:Nat} {z:Value} {dT:TypeDesc} {x:Operand} {v:Value} {i:Int} {xs:List α} {cs:List Value} (hx:ev σ x=some (HN v (i.toNat*q))) (hf:aM M L (Sl r v xs)) (hfit:e.Fits r) (hcs:e.enc (at' xs i)=cs)
  (hT:eM.tab P T=some ⟨dT,cs.length,s2,z⟩) (hd:Bb dT=true) (hq:e.sz=q) (h:0<=i∧i<xs.length):Y P c n σ M L ⟨d,.load T x,ty,pos,aft,g⟩ (.agg cs.toArray):=fun a w s t=>by
 obtain⟨h0,h1⟩:=h
 obtain⟨S,h⟩:=hf.st t
 obtain⟨es,hr,hes⟩:=sl_cell h (pT h0 h1)
 obtain⟨hsz,he,_,_⟩:=hfit
 have:=he hr
 subst this hcs
 rw[hsz,hq]at hes
 have:=AB (w:=w) (A:=IF v (i.toNat*q)) (cs:=e.enc (at' xs i)) (eM.ok hT) hd rfl (fun j u hu=>by rw[Kf];exact hes j u hu)
 simp[execOp,s.eval hx,HN,this]
def aV (M L:List bX) (L0:List bX):Prop:=∀f∈L0,aM M L f
theorem aV.nil:aV M L []:=fun _ h=>by simp at h
theorem aV.cons {f:bX} {L0:List bX} (h:aM M L f) (k:aV M L L0):aV M L (f::L0):=fun x hx=>by
 rcases List.mem_cons.1 hx with rfl|hx
 ·exact h
 ·exact k x hx
theorem Lg {w w':World} {M1:List bX} {F:Nat->Nat->Prop} {U:Nat->Prop} (ho:Dh c.O c.w0 w) (hF:Wh c w M F) (hL:∀f∈L,f.p w (BS c F))
  (t:St ⟨w,U,fun _=>False⟩ M1 [] w'):St c (M1++M) L w':=by
 obtain⟨ho',F',hF',_⟩:=t
 have t2:St ⟨w,BS c F,fun _=>False⟩ M1 [] w':=⟨ho',F',⟨hF'.res,hF'.rng,hF'.dis⟩,fun f hf=>by simp at hf⟩
 exact St.call ho hF hL t2
theorem Mw {A:Type} {ret:A->Value} {MO:A->List bX->List bX} {f:FuncId} {xs:List Operand} {vs:List Value} {ats:Array TypeId} {L0:List bX} (hb:bO P f)
  (hs:bQ P f vs.toArray L0 ret MO (fun _ l=>l)) (hx:xs.map (ev σ)=vs.map some) (hL:aV M L L0) (hMO:∀x l,MO x l=MO x []++l):
  aW P c n σ M L ⟨d,.call ⟨.value (.func f),xs.toArray,ats⟩,ty,pos,aft,g⟩ ret (fun x=>MO x M) (fun _=>L):=fun a w s t=>by
 have hrun:(execOp a.eval ⟨d,.call ⟨.value (.func f),xs.toArray,ats⟩,ty,pos,aft,g⟩).run P w = .ok (.enter f vs.toArray) w:=by
  have e:=XH s hx
  simp[execOp,resolve,Act.eval,Deferred.ofValue,invoke,hb _ w,e]
 simp only[Oper.wp,hrun,Oper.upon]
 obtain⟨ho,F,hF,hLF⟩:=t
 refine(hs w (fun _=>True) (fun f hf=>hL f hf w (BS c F) F _ hLF hF.res (fun _ _=>trivial) (fun _ _ _=>trivial))).mono ?_
 rintro e w' ⟨x,rfl,ht⟩
 refine⟨x,rfl,?_⟩
 rw[hMO]
 exact Lg ho hF hLF ht
theorem xH {A:Type} {ret:A->Value} {MO:A->List bX->List bX} {f:FuncId} {t:Tmp} {xs:List Operand} {vs cs:List Value} {ats:Array TypeId} {L0:List bX} (hb:bO P f)
  (ht:lk σ t=some (.func (.func f) #[] cs.toArray)) (hs:bQ P f (vs++cs).toArray L0 ret MO (fun _ l=>l)) (hx:xs.map (ev σ)=vs.map some) (hL:aV M L L0) (hMO:∀x l,MO x l=MO x []++l):
  aW P c n σ M L ⟨d,.call ⟨.value (.tmp t),xs.toArray,ats⟩,ty,pos,aft,g⟩ ret (fun x=>MO x M) (fun _=>L):=fun a w s t'=>by
 have hrun:(execOp a.eval ⟨d,.call ⟨.value (.tmp t),xs.toArray,ats⟩,ty,pos,aft,g⟩).run P w = .ok (.enter f (vs++cs).toArray) w:=by
  have e:=XH s hx
  have e2:a.eval (.tmp t) = .func (.func f) #[] cs.toArray:=s.eval (x:= .tmp t) ht
  simp[execOp,resolve,e2,Deferred.ofValue,invoke,hb _ w,e]
 simp only[Oper.wp,hrun,Oper.upon]
 obtain⟨ho,F,hF,hLF⟩:=t'
 refine(hs w (fun _=>True) (fun f hf=>hL f hf w (BS c F) F _ hLF hF.res (fun _ _=>trivial) (fun _ _ _=>trivial))).mono ?_
 rintro e w' ⟨x,rfl,ht⟩
 refine⟨x,rfl,?_⟩
 rw[hMO]
 exact Lg ho hF hLF ht
theorem dP [eM P] (i:Nat) {r:kJ α} (hfit:e.Fits r) {x y:Operand} {v u:Value} {xs ys:List α} {T E:TypeId} {s1 s2 s3 s4:Nat} {z z':Value} {dE:TypeDesc} (hx:ev σ x=some v) (hy:ev σ y=some u) (hf:M[i]? = some (Ar e v xs)) (hg:aM M L (Sl r u ys))
  (hT:eM.tab P T=some ⟨.slice E,s1,s2,z⟩) (hE:eM.tab P E=some ⟨dE,s3,s4,z'⟩) (h3:e.sz=s3) (h4:Nat.ble s4 1024=true) (hl:(xs.length:Int)+ys.length<=1099511627) (hz:z'.cells.size=s3):
  aW P c n σ M L ⟨d,.call ⟨.builtin .append,#[x,y],#[T,T]⟩,ty,pos,aft,g⟩ (fun v':Value=>v') (fun v'=>M.set i (Ar e v' (xs++ys))) (fun _=>L):=fun a w s t=>by
 subst h3
 obtain⟨F,hF⟩:=hg.st t
 obtain⟨hs,h1⟩:=Le hfit hF hT
 have h4':s4<=1024:=by simpa using h4
 have hb:(xs.length+ys.length)*s4<=140737488355328:=Nat.le_trans (Nat.mul_le_mul (show xs.length+ys.length<=1099511627 by omega) h4') (by decide)
 obtain⟨v',w',hr,ht⟩:=t.append (ty:=ty) hf hs h1 hT hE hb (by omega) hz
 simp only[Oper.wp,CK s hx hy w,hr,Result.andThen_ok,Oper.upon]
 exact⟨v',rfl,ht⟩
end
end
section
section
variable {P:Program} {rd:Option Nat} {c:Ax} {n:Sz} {σ:Fr} {M L M' L':List bX} {Q:Exit->Act->World->Prop} {ops:Array Oper} {rest:List Oper} {K:Act->World->Prop}
variable {d:Option Tmp} {D:Nat} {ty:TypeId} {pos:String} {aft:Array Edge} {g:Option (Nat×Bool)}
variable {α β:Type} {e:nV α} {r:kJ α}
theorem St.weakE {w:World} (h:St c M L w) (hM:bH M M') (hL:aV [] L L'):St c M' L' w:=by
 obtain⟨ho,F,hF,hf⟩:=h.weak (L':=L) hM (fun _ h=>h)
 exact⟨ho,F,hF,fun f hfl=>hL f hfl w (BS c F) (fun _ _=>False) (BS c F) hf (fun _ _ h=>by simp at h) (fun _ h=>h) (fun _ _ h=>h.elim)⟩
theorem aV.refl (M L:List bX):aV M L L:=fun f hf=>by
 obtain⟨j,hj⟩:=List.getElem?_of_mem hf
 exact bV j hj
def Qf {A B:Type} (c:Ax) (n:Sz) (C:A->Prop) (σI:A->B->Fr) (MI LI:A->B->List bX) (a:Act) (w:World):Prop:=∃x y,C x∧GG n (σI x y) a∧St c (MI x y) (LI x y) w
theorem iM {A B:Type} {x:Code} (C:A->Prop) (σI:A->B->Fr) (MI LI:A->B->List bX) (h1:J c n σ M L (x.wpr rd P (Exit.then (Qf c n C σI MI LI) Q))) (h2:∀a b,C a->J c n (σI a b) (MI a b) (LI a b) K):
  J c n σ M L (x.wpr rd P (Exit.then K Q)):=fun a w s t=>Mj (fun e a' w' q=>by
 cases e with
 |normal=>obtain⟨z,y,hC,hs,ht⟩:=q;exact h2 z y hC a' w' hs ht
 |exit id=>exact q
 |goto l=>exact q
 |ret=>exact q
 |panic ch=>exact q
 |outgrown=>exact q) (h1 a w s t)
theorem cK {A B:Type} {C:A->Prop} {σI:A->B->Fr} {MI LI:A->B->List bX} (x:A) (y:B) (hC:C x) (hs:BY σ (σI x y)) (hM:bH M (MI x y)) (hL:aV [] L (LI x y)):J c n σ M L (Qf c n C σI MI LI):=
 fun _ _ s t=>⟨x,y,hC,s.weak hs,t.weakE hM hL⟩
def SD {A B R:Type} (c:Ax) (n:Sz) (step:A->(A->Option R)->Option R) (r:R) (σI:A->B->Fr) (MI LI:A->B->List bX) (k:Nat) (a:Act) (w:World):Prop:=
 ∃x y,bZ step k x=some r∧GG n (σI x y) a∧St c (MI x y) (LI x y) w
theorem jL {A B R:Type} {body:Code} (step:A->(A->Option R)->Option R) {r:R} {fuel:Nat} (σI:A->B->Fr) (MI LI:A->B->List bX) (a0:A) (b0:B) (h:bZ step fuel a0=some r)
  (hs:BY σ (σI a0 b0)) (hM:bH M (MI a0 b0)) (hL:aV [] L (LI a0 b0))
  (round:∀k a b,step a (bZ step k)=some r->J c n (σI a b) (MI a b) (LI a b) (body.wpr rd P (Exit.then (SD c n step r σI MI LI k) Q))):J c n σ M L ((Code.loop body).wpr rd P Q):=by
 intro a w s t
 refine Uv (X:=Nat×A×B) (fun x=>bZ step x.1 x.2.1=some r) (fun x=>σI x.2.1 x.2.2) (fun x=>MI x.2.1 x.2.2) (fun x=>LI x.2.1 x.2.2) (fun x=>x.1) (fuel,a0,b0) h (BY.refl _) (bH.refl _) (fun _ h=>h) ?_ a w (s.weak hs) (t.weakE hM hL)
 rintro⟨k,x,y⟩ hC
 cases k with
 |zero=>cases hC
 |succ k=>
  refine Uw (round k x y hC) fun a w h=>Mj (fun e a' w' q=> ?_) h
  cases e with
  |normal=>obtain⟨x',y',hC',hs',ht'⟩:=q;exact⟨(k,x',y'),hC',Nat.lt_succ_self k,hs',ht'⟩
  |exit id=>exact q
  |goto l=>exact q
  |ret=>exact q
  |panic ch=>exact q
  |outgrown=>exact q
theorem dZ {A B R:Type} {step:A->(A->Option R)->Option R} {r:R} {k:Nat} {σI:A->B->Fr} {MI LI:A->B->List bX} (x:A) (y:B) (h:bZ step k x=some r) (hs:BY σ (σI x y)) (hM:bH M (MI x y)) (hL:aV [] L (LI x y)):
  J c n σ M L (SD c n step r σI MI LI k):=fun _ _ s t=>⟨x,y,h,s.weak hs,t.weakE hM hL⟩
variable {l:List Oper} {m:List Nat} {k0:Nat} {H Bs:List (Nat×List bX×List bX)} {rs:List Nat}
theorem dK {i dd:Nat} {op:Op} {v:Value} {Mx Lx:List bX} (hi:l[i]? = some ⟨some dd,op,ty,pos,aft,none⟩) (hM:bH M Mx) (hL:j_ L Lx)
  (hy:Y P c n σ Mx Lx ⟨some dd,op,ty,pos,aft,none⟩ v) (hH:bG (before m i) Mx Lx H)
  (h:JR c n ((dd,v)::σ) M L H ((i,Mx,Lx)::Bs) (RW P l.toArray Q (before m) (eN l) k0 rs))
  (hk:Nat.blt i k0=true:=by exact rfl) (hl:fK op=false:=by exact rfl) (hd:Nat.blt dd n.sz=true:=by exact rfl):JR c n σ M L H Bs (RW P l.toArray Q (before m) (eN l) k0 (i::rs)):=
 JR.quiet Mx Lx hi hk hl hy ⟨hM,hL⟩ hH hd h
theorem fI {i dd:Nat} {op:Op} {v:Value} {j:Nat} {b:Bool} {Mx Lx:List bX} (hi:l[i]? = some ⟨some dd,op,ty,pos,aft,some (j,b)⟩) (hM:bH M Mx) (hL:j_ L Lx)
  (hy:Y P c n σ Mx Lx ⟨some dd,op,ty,pos,aft,some (j,b)⟩ v) (hH:bG (before m i) Mx Lx H)
  (h:JR c n ((dd,v)::σ) M L H ((i,Mx,Lx)::Bs) (RW P l.toArray Q (before m) (eN l) k0 rs))
  (hk:Nat.blt i k0=true:=by exact rfl) (hl:fK op=false:=by exact rfl) (hg:gv l.toArray σ j=some b:=by exact rfl) (hd:Nat.blt dd n.sz=true:=by exact rfl):JR c n σ M L H Bs (RW P l.toArray Q (before m) (eN l) k0 (i::rs)):=
 OS Mx Lx hi hk hl hg hy ⟨hM,hL⟩ hH hd h
def FQ (tmps:Array Value):ResultVar->Sem Value
 | .tmp t=>pure (tmps.getD t undef)
 | .cell a t=>do loadVar t (<-asAddr (tmps.getD a undef))
theorem CI (fn:Func) (tmps:Array Value):results fn tmps=(do let vs <-fn.results.mapM (FQ tmps);pure (if h:vs.size=1 then vs[0]else .tuple vs)):=rfl
def RV (P:Program) (c:Ax) (n:Sz) (σ:Fr) (M L:List bX) (rv:ResultVar) (v:Value):Prop:=∀a w,GG n σ a->St c M L w->(FQ a.tmps rv).run P w = .ok v w
theorem RV.tmp {t:Tmp} {v:Value} (h:lk σ t=some v):RV P c n σ M L (.tmp t) v:=fun a w s _=>by simp[FQ,s.slot t v h]
theorem RV.cell [eM P] (i:Nat) {q:Tmp} {T T':TypeId} {s2:Nat} {z:Value} {dT:TypeDesc} {b:Nat} {cs:List Value} (hr:lk σ q=some (.pointer (some ⟨b,0,none⟩))) (hB:M[i]? = some (bJ b cs T')) (hT:eM.tab P T=some ⟨dT,cs.length,s2,z⟩) (hd:Bb dT=true):
  RV P c n σ M L (.cell q T) (.agg cs.toArray):=fun a w s t=>by
 obtain⟨F,hF⟩:=t.res hB
 simp[FQ,s.slot q _ hr,asAddr,RJ hF hT hd]
variable {A:Type} {ret:A->Value} {MO LO:A->List bX->List bX} {fn:Func}
theorem uD (x:A) {r1:ResultVar} {v1:Value} (hx:ret x=v1) (hres:fn.results = #[r1]) (h1:RV P c n σ M L r1 v1) (hM:bH M (MO x [])) (hL:aV [] L (LO x [])) (hds:n.ds=[]:=by rfl):J c n σ M L (u_ P fn (Qg c ret MO LO) .ret):=fun a w s t=>by
 have hr:(results fn a.tmps).run P w = .ok (ret x) w:=by
  have:=h1 a w s t
  simp only[CI,hres]
  simp[hx,this]
 exact body_end (.inl rfl) (s.defers.trans hds) hr ⟨x,rfl,t.weakE hM hL⟩
theorem fB (x:A) {r1 r2:ResultVar} {v1 v2:Value} (hx:ret x = .tuple #[v1,v2]) (hres:fn.results = #[r1,r2]) (h1:RV P c n σ M L r1 v1) (h2:RV P c n σ M L r2 v2) (hM:bH M (MO x [])) (hL:aV [] L (LO x [])) (hds:n.ds=[]:=by rfl):J c n σ M L (u_ P fn (Qg c ret MO LO) .ret):=fun a w s t=>by
 have hr:(results fn a.tmps).run P w = .ok (ret x) w:=by
  have h1:=h1 a w s t
  have h2:=h2 a w s t
  simp only[CI,hres]
  simp[hx,h1,h2]
 exact body_end (.inl rfl) (s.defers.trans hds) hr ⟨x,rfl,t.weakE hM hL⟩
def wI:IntKind->Int->Int
 | .i64,x=>if -9223372036854775808<=x∧x<=9223372036854775807 then x else IntKind.i64.wrap x
 | .u32,x=>if 0<=x∧x<=4294967295 then x else IntKind.u32.wrap x
 |k,x=>k.wrap x
theorem Ss (k:IntKind) (x:Int):wI k x=k.wrap x:=by
 unfold wI
 split
 ·split
  ·rename_i h;exact(JE h.1 h.2).symm
  ·rfl
 ·split
  ·rename_i h
   unfold IntKind.wrap
   simp only[IntKind.bits,IntKind.signed]
   simp
   omega
  ·rfl
 ·rfl
theorem MF {t t':TypeId} {x y:Operand} {k:IntKind} {p q:Int} (hx:ev σ x=some (.int k p)) (hy:ev σ y=some (.int k q)):
  Y P c n σ M L ⟨d,.binOp .add t x y t',ty,pos,aft,g⟩ (.int k (wI k (p+q))):=fun a w s _=>by
 simp[Ss,execOp,s.eval hx,s.eval hy,binOp,Op.intArith,sD]
theorem sY {t t':TypeId} {x y:Operand} {k:IntKind} {p q:Int} (hx:ev σ x=some (.int k p)) (hy:ev σ y=some (.int k q)):
  Y P c n σ M L ⟨d,.binOp .sub t x y t',ty,pos,aft,g⟩ (.int k (wI k (p - q))):=fun a w s _=>by
 simp[Ss,execOp,s.eval hx,s.eval hy,binOp,Op.intArith,sD]
theorem UA {t t':TypeId} {x y:Operand} {k:IntKind} {p q:Int} (hx:ev σ x=some (.int k p)) (hy:ev σ y=some (.int k q)):
  Y P c n σ M L ⟨d,.binOp .mul t x y t',ty,pos,aft,g⟩ (.int k (wI k (p*q))):=fun a w s _=>by
 simp[Ss,execOp,s.eval hx,s.eval hy,binOp,Op.intArith,sD]
end
end
section
def nV.pair {α β:Type} (a:nV α) (b:nV β):nV (α×β):=⟨a.sz+b.sz,Nat.lt_of_lt_of_le a.pos (Nat.le_add_right _ _),fun x=>a.enc x.1++b.enc x.2,fun x=>by simp[a.len,b.len]⟩
theorem sC {α β:Type} {a:nV α} {b:nV β} {r:kJ α} {s:kJ β} (h:a.Fits r) (k:b.Fits s):(a.pair b).Fits (r.pair s):=by
 obtain⟨h1,h2,h3,h4⟩:=h
 obtain⟨k1,k2,k3,k4⟩:=k
 refine⟨by simp[nV.pair,kJ.pair,h1,k1],?_,?_,?_⟩
 ·rintro w S es x ⟨c1,c2,rfl,r1,r2⟩
  rw[h2 r1,k2 r2];rfl
 ·intro w S x;exact⟨_,_,rfl,h3,k3⟩
 ·intro x
  simp only[nV.pair,List.all_append,h4,k4,Bool.and_self]
section
variable {P:Program} {rd:Option Nat} {c:Ax} {n:Sz} {σ:Fr} {M L M' L':List bX} {Q:Exit->Act->World->Prop} {ops:Array Oper} {rest:List Oper} {K:Act->World->Prop}
variable {d:Option Tmp} {D:Nat} {ty:TypeId} {pos:String} {aft:Array Edge} {g:Option (Nat×Bool)}
variable {α β:Type} {e:nV α} {r:kJ α}
theorem Lb {A:Type} {o:Oper} {val:A->Value} {xs:List α} (h:aW P c n σ M L o val (fun b=>Ar e (val b) xs::M) (fun _=>L)):aW P c n σ M L o (fun v:Value=>v) (fun v=>Ar e v xs::M) (fun _=>L):=fun a w s t=>
 oP (fun _ _ ⟨x,h1,h2⟩=>⟨val x,h1,h2⟩) (h a w s t)
theorem Bv (e:nV α) (k:Nat) (x:α):(cellsOf e (List.replicate k x))=(List.replicate k (e.enc x)).flatten:=by
 induction k with
 |zero=>rfl
 |succ k ih=>simp only[List.replicate_succ,cellsOf,List.flatMap_cons,List.flatten_cons]at *;rw[ih]
theorem Lw (cs:List Value) (hcs:cs≠[]) (k:Nat):(madeCells cs.toArray (k*cs.length)).toList=(List.replicate k cs).flatten:=by
 have hpos:0<cs.length:=List.length_pos_iff.2 hcs
 apply List.ext_getElem
 ·simp[madeCells]
 ·intro i h1 h2
  have hi:i<k*cs.length:=by simpa [madeCells]using h1
  have hm:i%cs.length<cs.length:=Nat.mod_lt _ hpos
  have hrep:∀(k i:Nat) (h:i<((List.replicate k cs).flatten).length),((List.replicate k cs).flatten)[i]=cs[i%cs.length]'(Nat.mod_lt _ hpos):=by
   intro k
   induction k with
   |zero=>intro i h;simp at h
   | succ k ih =>
    intro i h
    simp only[List.replicate_succ,List.flatten_cons]
    by_cases hlt:i<cs.length
    ·rw[List.getElem_append_left hlt]
     simp[Nat.mod_eq_of_lt hlt]
    ·rw[List.getElem_append_right (by omega)]
     rw[ih]
     congr 1
     rw[<-Nat.mod_eq_sub_mod (by omega)]
  rw[hrep]
  simp[madeCells,hm]
theorem Cq [eM P] {T E:TypeId} {s1 s2 s3 s4:Nat} {z z':Value} {dE:TypeDesc} {x:Operand} {k:Int} (z0:α)
  (hT:eM.tab P T=some ⟨.slice E,s1,s2,z⟩) (hE:eM.tab P E=some ⟨dE,s3,s4,z'⟩) (hx:ev σ x=some (.int .i64 k)) (h4:Nat.ble s4 1024=true) (h:0<=k∧k<=1099511627) (h3:e.sz=s3)
  (hz:z'.cells=(e.enc z0).toArray) (h1:(e.enc z0).all one=true):
  aW P c n σ M L ⟨d,.makeSlice T x x,ty,pos,aft,g⟩ (fun v:Value=>v) (fun v=>Ar e v (List.replicate k.toNat z0)::M) (fun _=>L):=by
 have h4':s4<=1024:=by simpa using h4
 subst h3
 have hne:e.enc z0≠[]:=by
  intro h;have:=e.len z0;rw[h]at this;have:=e.pos;simp at *;omega
 refine Lb (aW.makeSlice (List.replicate k.toNat z0) hT hE hx h.1 ?_ (by omega) (by simp) ?_ ?_)
 ·have:=Int.mul_le_mul (show(s4:Int)<=1024 by omega) h.2 h.1 (by decide)
  omega
 ·rw[hz,Bv,<-e.len z0]
  exact Lw _ hne _
 ·rw[Bv,List.all_eq_true]
  intro u hu
  obtain⟨l,hl,hul⟩:=List.mem_flatten.1 hu
  rw[(List.mem_replicate.1 hl).2]at hul
  exact List.all_eq_true.1 h1 u hul
theorem dJ [eM P] {T E:TypeId} {k s1 s2 s3 s4:Nat} {z z':Value} {dE:TypeDesc} {ps:List (Nat×Operand)} (xs:List α) (vs:List (Nat×Value))
  (hv:ps.map (fun p=>(p.1,ev σ p.2))=vs.map (fun p=>(p.1,some p.2))) (hT:eM.tab P T=some ⟨.slice E,s1,s2,z⟩) (hE:eM.tab P E=some ⟨dE,s3,s4,z'⟩) (hs:Nat.ble (k*s3) 16777216=true)
  (hfill:∀init:Array Value,init.size=k*s3->Instr.fill (fun i=>some (i*s3,s3)) init vs=some (cellsOf e xs).toArray)
  (hk:xs.length=k) (hl:Nat.ble xs.length 140737488355328=true) (h1:(cellsOf e xs).all one=true):
  aW P c n σ M L ⟨d,.buildSlice T k ps.toArray,ty,pos,aft,g⟩ (fun v:Value=>v) (fun v=>Ar e v xs::M) (fun _=>L):=
 Lb (aW.buildSlice xs hT hE hs hv hfill hk hl h1)
theorem Dg [eM P] (j:Nat) {T:TypeId} {s2:Nat} {z:Value} {dT:TypeDesc} {x y:Operand} {v u:Value} {i:Int} {xs:List α} (yv:α) (h:0<=i∧i<xs.length) (hx:ev σ x=some (HN v (i.toNat*1))) (hy:ev σ y=some u)
  (hf:M[j]? = some (Ar e v xs)) (hu:e.enc yv=[u]) (h1u:one u=true) (hT:eM.tab P T=some ⟨dT,1,s2,z⟩) (hq:e.sz=1)
  (hh:J c n σ (M.set j (Ar e v (xs.set i.toNat yv))) L (wpList P ops Q rest)):
  J c n σ M L (wpList P ops Q (⟨none,.store T x y,ty,pos,aft,none⟩::rest)):=Qb j yv hx hy hu h1u hf hT hq h.1 h.2 hh
end
end
section
def eB (M L M' L':List bX):Prop:=∀c w,St c M L w->St c M' L' w
section
variable {P:Program} {rd:Option Nat} {c:Ax} {n:Sz} {σ:Fr} {M L M' L':List bX} {Q:Exit->Act->World->Prop} {ops:Array Oper} {rest:List Oper} {K:Act->World->Prop}
variable {d:Option Tmp} {D:Nat} {ty:TypeId} {pos:String} {aft:Array Edge} {g:Option (Nat×Bool)}
variable {α β:Type} {e:nV α} {r:kJ α}
variable {H Bs:List (Nat×List bX×List bX)} {G:Act->World->Prop} {GR:Act->World->List (Nat×World)->List (Nat×(World->Prop))->Prop}
theorem cJ (h:eB M L M' L') (k:J c n σ M' L' G):J c n σ M L G:=fun a w s t=>k a w s (h c w t)
theorem JR.stp (h:eB M L M' L') (k:JR c n σ M' L' H Bs GR):JR c n σ M L H Bs GR:=fun a w X Y s t hX hY=>k a w X Y s (h c w t) hX hY
theorem bY {p:Prop} (h:∀c w,St c M L w->p) (k:p->J c n σ M L G):J c n σ M L G:=fun a w s t=>k (h c w t) a w s t
theorem eG {p:Prop} (h:∀c w,St c M L w->p) (k:p->JR c n σ M L H Bs GR):JR c n σ M L H Bs GR:=fun a w X Y s t hX hY=>k (h c w t) a w X Y s t hX hY
theorem Know.one {v:Value} {xs:List α} (hf:aM M L (Sl r v xs)):∀c w,St c M L w->one v=true:=fun c w t=>by
 obtain⟨S,a',cap,hv,_⟩:=hf.st t
 rw[hv];rfl
theorem eB.add {m:bX} (h:∀w,m.p w (fun _=>False)):eB M L (m::M) L:=fun c w t=>by
 obtain⟨ho,F,hF,hL⟩:=t
 refine⟨ho,fun i k=>match i with|0=>False|i+1=>F i k,⟨?_,?_,?_⟩,fun f hf=>bX.same (hL f hf) (fun k hk=>⟨hk.1,fun i hi=>by
   cases i with
   |zero=>exact hi
   |succ i=>exact hk.2 i hi⟩) (fun _ _ _=>rfl)⟩
 ·intro i m' hm
  cases i with
  |zero=>simp at hm;subst hm;exact h w
  |succ i=>exact hF.res i m' (by simpa using hm)
 ·intro i k hk
  cases i with
  |zero=>exact hk.elim
  |succ i=>exact hF.rng i k hk
 ·intro i j k hi hj
  cases i with
  |zero=>exact hi.elim
  |succ i=>
   cases j with
   |zero=>exact hj.elim
   |succ j=>exact congrArg (· + 1) (hF.dis i j k hi hj)
theorem d_ (e:nV α):eB M L (Ar e (.slice none 0 0) []::M) L:=eB.add fun _=>⟨by simp,rfl,.inl ⟨rfl,rfl⟩⟩
theorem aV.tail (l:List bX) {Lf:List bX}:aV M (l++Lf) Lf:=fun f hf=>by
 obtain⟨j,hj⟩:=List.getElem?_of_mem (List.mem_append_right l hf)
 exact bV j hj
theorem cX {l:List Oper} {m:List Nat} {k0:Nat} {rs:List Nat} (k:Nat) (hk:rs.all (Nat.ble k0)=true) (he:rs.map (l[·]?)=(l.drop k).map some) (h:J c n σ M L (wpList P l.toArray Q (l.drop k))):JR c n σ M L H Bs (RW P l.toArray Q (before m) (eN l) k0 rs):=JR.tail hk he h
def LS (v:Value) (l h size:Nat):Value:=match v with
 | .slice a _ cap=> .slice (if cap=l then a else a.map (·.add (l*size))) (h - l) (cap - l)
 |v=>v
theorem El.part {w:World} {S:Nat->Prop} {v:Value} {xs:List α} (hs:El r w S v xs) {l h:Nat} (hl:l<=h) (hh:h<=xs.length):El r w S (LS v l h r.sz) ((xs.take h).drop l):=by
 obtain⟨a,cap,rfl,hb,hx⟩:=hs
 have hlen:((xs.take h).drop l).length=h - l:=by simp;omega
 by_cases he:(xs.take h).drop l=[]
 ·rw[he]at hlen ⊢
  refine⟨_,_,by simp only[LS];congr 1;simpa using hlen.symm,by simp,.inl rfl⟩
 ·rcases hx with rfl|⟨b,off,rfl,hS,hx⟩
  ·simp at he
  ·have hlt:l<h:=by
    rcases Nat.lt_or_ge l h with h'|h'
    ·exact h'
    ·exfalso;apply he;apply List.eq_nil_of_length_eq_zero;omega
   have hc:cap≠l:=by omega
   refine⟨some ⟨b,off+l*r.sz,none⟩,cap - l,by simp[LS,hc,hlen,fM],by omega,.inr ⟨b,off+l*r.sz,rfl,hS,fun i x hi=> ?_⟩⟩
   have hi':xs[l+i]? = some x:=by
    rw[List.getElem?_drop,List.getElem?_take]at hi
    split at hi
    ·exact hi
    ·cases hi
   obtain⟨es,hes,hr⟩:=hx (l+i) x hi'
   refine⟨es,fun j u hu=> ?_,hr⟩
   have:=hes j u hu
   rw[Nat.add_mul]at this
   rw[show off+l*r.sz+(i*r.sz+j)=off+(l*r.sz+i*r.sz+j) by omega]
   exact this
theorem aM.part {v:Value} {xs:List α} (hf:aM M L (Sl r v xs)) {l h:Int} {q:Nat} (hq:r.sz=q) (hl:0<=l∧l<=h∧h<=xs.length):aM M L (Sl r (LS v l.toNat h.toNat q) ((xs.take h.toNat).drop l.toNat)):=by
 subst hq
 exact hf.mono fun hs=>El.part hs (by omega) (by omega)
theorem HC [eM P] {T E:TypeId} {s1 s2 s3 s4:Nat} {z z':Value} {dE:TypeDesc} {x hi:Operand} {v:Value} {k:Int} {xs:List α} (hx:ev σ x=some v) (hhi:ev σ hi=some (.int .i64 k)) (hf:aM M L (Sl r v xs))
  (hT:eM.tab P T=some ⟨.slice E,s1,s2,z⟩) (hE:eM.tab P E=some ⟨dE,s3,s4,z'⟩) (h:0<=(0:Int)∧0<=k∧k<=xs.length):Y P c n σ M L ⟨d,.slice T x none (some hi) none,ty,pos,aft,g⟩ (LS v (0:Int).toNat k.toNat s3):=fun a w s t=>by
 obtain⟨S,a',cap,hv,hb,_⟩:=hf.st t
 subst hv
 have h1:0<=k∧k<=(cap:Int):=by omega
 simp[execOp,s.eval hx,s.eval hhi,Instr.sliceAt,Instr.slice,(eM.ok hT).run_und w,Instr.sliceBounds,Instr.sliceBound,asIntOf,(eM.ok hE).run_size w,LS,h1]
theorem Qn [eM P] {T E:TypeId} {s1 s2 s3 s4:Nat} {z z':Value} {dE:TypeDesc} {x lo:Operand} {v:Value} {i:Int} {xs:List α} (hx:ev σ x=some v) (hlo:ev σ lo=some (.int .i64 i)) (hf:aM M L (Sl r v xs))
  (hT:eM.tab P T=some ⟨.slice E,s1,s2,z⟩) (hE:eM.tab P E=some ⟨dE,s3,s4,z'⟩) (h:0<=i∧i<=(xs.length:Int)∧(xs.length:Int)<=xs.length):Y P c n σ M L ⟨d,.slice T x (some lo) none none,ty,pos,aft,g⟩ (LS v i.toNat (xs.length:Int).toNat s3):=fun a w s t=>by
 obtain⟨S,a',cap,hv,hb,_⟩:=hf.st t
 subst hv
 have h1:0<=i∧i<=(xs.length:Int):=by omega
 simp[execOp,s.eval hx,s.eval hlo,Instr.sliceAt,Instr.slice,(eM.ok hT).run_und w,Instr.sliceBounds,Instr.sliceBound,asIntOf,(eM.ok hE).run_size w,LS,h1]
theorem Dn [eM P] {T T':TypeId} {s1 s2:Nat} {z:Value} {dT:TypeDesc} {x:Operand} {b o:Nat} {cs:List Value} {v:Value} (hx:ev σ x=some (.pointer (some ⟨b,o,none⟩)))
  (hM:aM M L (bJ b cs T')) (hT:eM.tab P T=some ⟨dT,s1,s2,z⟩) (hd:Bb dT=false) (hv:cs[o]? = some v):Y P c n σ M L ⟨d,.load T x,ty,pos,aft,g⟩ v:=fun a w s t=>by
 obtain⟨F,hF⟩:=hM.st t
 simp[execOp,s.eval hx,Cg (eM.ok hT) hd (bJ.cell hF hv)]
theorem Lj [eM P] {T T':TypeId} {s2:Nat} {z:Value} {dT:TypeDesc} {x:Operand} {b:Nat} {cs:List Value} (hx:ev σ x=some (.pointer (some ⟨b,0,none⟩)))
  (hM:aM M L (bJ b cs T')) (hT:eM.tab P T=some ⟨dT,cs.length,s2,z⟩) (hd:Bb dT=true):Y P c n σ M L ⟨d,.load T x,ty,pos,aft,g⟩ (.agg cs.toArray):=fun a w s t=>by
 obtain⟨F,hF⟩:=hM.st t
 have:=AB (w:=w) (A:=⟨b,0,none⟩) (cs:=cs) (eM.ok hT) hd rfl (fun j v hv=>by rw[fM,Nat.zero_add];exact bJ.cell hF hv)
 simp[execOp,s.eval hx,this]
theorem JN {t t':TypeId} {x y:Operand} {u v:Value} {p:Prop} [Decidable p] (hx:ev σ x=some u) (hy:ev σ y=some v)
  (h:∀w,(eqGuard .neq t x y u v).run P w = .ok () w∧(binOp .neq t u v).run P w = .ok (.bool (decide p)) w):Y P c n σ M L ⟨d,.binOp .neq t x y t',ty,pos,aft,g⟩ (.bool (decide p)):=fun a w s _=>by
 simp[execOp,s.eval hx,s.eval hy,(h w).1,(h w).2]
theorem Cs [eM P] {T E:TypeId} {k s1 s2 s3 s4:Nat} {z z':Value} {dE:TypeDesc} {x y:Operand} {b:Nat} {i:Int} (hx:ev σ x=some (.pointer (some ⟨b,0,none⟩))) (hy:ev σ y=some (.int .i64 i))
  (hT:eM.tab P T=some ⟨.array k E,s1,s2,z⟩) (hE:eM.tab P E=some ⟨dE,s3,s4,z'⟩) (h3:(s3==0)=false) (h:0<=i∧i<(k:Int)):
  Y P c n σ M L ⟨d,.indexAddr T x y,ty,pos,aft,g⟩ (.pointer (some ⟨b,i.toNat*s3,none⟩)):=fun a w s t=>by
 have hne:s3≠0:=by simpa using h3
 simp[execOp,s.eval hx,s.eval hy,Instr.indexAt,asIntOf,(eM.ok hT).run_und w,h,Instr.sureAddr,(eM.ok hE).run_size w,hne,fM]
end
end
section
section
variable {P:Program} {rd:Option Nat} {c:Ax} {n:Sz} {σ:Fr} {M L M' L':List bX} {Q:Exit->Act->World->Prop} {ops:Array Oper} {rest:List Oper} {K:Act->World->Prop}
variable {d:Option Tmp} {D:Nat} {ty:TypeId} {pos:String} {aft:Array Edge} {g:Option (Nat×Bool)}
variable {α β:Type} {e:nV α} {r:kJ α}
theorem bG.b {A:Nat->Bool} {Mx Lx M L:List bX} {j:Nat} {H:List (Nat×List bX×List bX)} (h:A j=true) (k:bG A Mx Lx H):bG A Mx Lx ((j,M,L)::H):=⟨.inl h,k⟩
theorem bG.h {A:Nat->Bool} {Mx Lx M L:List bX} {j:Nat} {H:List (Nat×List bX×List bX)} (h:bH M Mx) (h':j_ L Lx) (k:bG A Mx Lx H):bG A Mx Lx ((j,M,L)::H):=⟨.inr ⟨h,h'⟩,k⟩
theorem bG.z {A:Nat->Bool} {Mx Lx:List bX}:bG A Mx Lx []:=trivial
theorem Cn.b {A:Nat->Bool} {Mx Lx M L:List bX} {j:Nat} {H:List (Nat×List bX×List bX)} (h:A j=true) (k:Cn A M L H):Cn A M L ((j,Mx,Lx)::H):=⟨.inl h,k⟩
theorem Cn.h {A:Nat->Bool} {Mx Lx M L:List bX} {j:Nat} {H:List (Nat×List bX×List bX)} (h:bH M Mx) (h':j_ L Lx) (k:Cn A M L H):Cn A M L ((j,Mx,Lx)::H):=⟨.inr ⟨h,h'⟩,k⟩
theorem Cn.z {A:Nat->Bool} {M L:List bX}:Cn A M L []:=trivial
theorem cR {v:Value} {vs:List Value} (h:one v=true) (k:vs.all one=true):(v::vs).all one=true:=by simp[h,k]
theorem b_ (k:IntKind) (x:Int):(Value.int k x).cells = #[.int k x]:=rfl
theorem bR (b:Bool):(Value.bool b).cells = #[.bool b]:=rfl
theorem bM (a:Option Addr) (l k:Nat):(Value.slice a l k).cells = #[.slice a l k]:=rfl
theorem cA (a:Option Addr):(Value.pointer a).cells = #[.pointer a]:=rfl
theorem cB (a:ByteArray):(Value.string a).cells = #[.string a]:=rfl
theorem bS (f:Fn) (a b:Array Value):(Value.func f a b).cells = #[.func f a b]:=rfl
end
end
end Go.Sx
end
section
namespace Go.Sx
section
abbrev vI (x:Int):Value:= .int .i64 x
abbrev vU (x:Int):Value:= .int .u32 x
abbrev vP (b:Nat):Value:= .pointer (some ⟨b,0,none⟩)
open Go.RowKit
variable {P:Program} {rd:Option Nat} {c:Ax} {n:Sz} {σ:Fr} {M L:List bX} {Q:Exit->Act->World->Prop} {ops:Array Oper} {rest:List Oper} {d:Nat} {ty:TypeId} {pos:String} {aft:Array Edge} {x y:Operand} {v:Value} {K:Act->World->Prop}
theorem aE (h:(ev σ x,Nat.blt d n.sz)=(some v,true)) (k:J c n ((d,v)::σ) M L (wpList P ops Q rest)):J c n σ M L (wpList P ops Q (⟨some d,.move x,ty,pos,aft,none⟩::rest)):=aJ (xF (Prod.mk.inj h).1) (Prod.mk.inj h).2 k
theorem aK (h:(ev σ x,Nat.blt d n.sz)=(some v,true)) (k:J c n ((d,v)::σ) M L (wpList P ops Q rest)):J c n σ M L (wpList P ops Q (⟨some d,.assign x,ty,pos,aft,none⟩::rest)):=aJ (Fi (Prod.mk.inj h).1) (Prod.mk.inj h).2 k
theorem bP [eM P] {T:TypeId} {s1 s2 s3 s4:Nat} {z z':Value} {fs:Array Field} {nm tg pk:String} {em:Bool} {ft off bo:Nat} {dF:TypeDesc} {b o f:Nat} (h:(ev σ x,eM.tab P T,fs[f]?,eM.tab P ft,s3==0,Nat.blt d n.sz)=(some (.pointer (some ⟨b,o,none⟩)),some ⟨.struct fs,s1,s2,z⟩,some ⟨nm,ft,off,em,tg,pk,bo⟩,some ⟨dF,s3,s4,z'⟩,false,true)) (k:J c n ((d,.pointer (some ⟨b,o+off,none⟩))::σ) M L (wpList P ops Q rest)):J c n σ M L (wpList P ops Q (⟨some d,.fieldAddr T x f,ty,pos,aft,none⟩::rest)):=by
  simp only[Prod.mk.injEq]at h
  exact aJ (cF h.1 h.2.1 h.2.2.1 h.2.2.2.1 h.2.2.2.2.1) h.2.2.2.2.2 k
theorem dC [eM P] (i:Nat) {T T':TypeId} {s1 s2:Nat} {z:Value} {dT:TypeDesc} {b o:Nat} {cs:List Value} (h:(ev σ x,M[i]?,eM.tab P T,Bb dT,cs[o]?,Nat.blt d n.sz)=(some (.pointer (some ⟨b,o,none⟩)),some (bJ b cs T'),some ⟨dT,s1,s2,z⟩,false,some v,true)) (k:J c n ((d,v)::σ) M L (wpList P ops Q rest)):J c n σ M L (wpList P ops Q (⟨some d,.load T x,ty,pos,aft,none⟩::rest)):=by
  simp only[Prod.mk.injEq]at h
  exact aJ (cT i h.1 h.2.1 h.2.2.1 h.2.2.2.1 h.2.2.2.2.1) h.2.2.2.2.2 k
theorem iC [eM P] (i:Nat) {T T':TypeId} {s2:Nat} {z:Value} {dT:TypeDesc} {b:Nat} {cs:List Value} (h:(ev σ x,M[i]?,eM.tab P T,Bb dT,Nat.blt d n.sz)=(some (.pointer (some ⟨b,0,none⟩)),some (bJ b cs T'),some ⟨dT,cs.length,s2,z⟩,true,true)) (k:J c n ((d,.agg cs.toArray)::σ) M L (wpList P ops Q rest)):J c n σ M L (wpList P ops Q (⟨some d,.load T x,ty,pos,aft,none⟩::rest)):=by
  simp only[Prod.mk.injEq]at h
  exact aJ (iD i h.1 h.2.1 h.2.2.1 h.2.2.2.1) h.2.2.2.2 k
theorem aI {op:Op} {j:Nat} {b b':Bool} (h:(gv ops σ j,b'==b,Nat.blt d n.sz)=(some b',false,true)) (k:J c n ((d,undef)::σ) M L (wpList P ops Q rest)):J c n σ M L (wpList P ops Q (⟨some d,op,ty,pos,aft,some (j,b)⟩::rest)):=by
  simp only[Prod.mk.injEq]at h
  exact Qa h.1 h.2.1 h.2.2 k
theorem cP {j:Nat} {b:Bool} (h:(gv ops σ j,ev σ x,Nat.blt d n.sz)=(some b,some v,true)) (k:J c n ((d,v)::σ) M L (wpList P ops Q rest)):J c n σ M L (wpList P ops Q (⟨some d,.move x,ty,pos,aft,some (j,b)⟩::rest)):=by
  simp only[Prod.mk.injEq]at h
  exact aL h.1 (xF h.2.1) h.2.2 k
theorem dL {t t':TypeId} {i:IntKind} {p q:Int} (h:(ev σ x,ev σ y,Nat.blt d n.sz)=(some (.int i p),some (.int i q),true)) (k:J c n ((d,.bool (decide (p<q)))::σ) M L (wpList P ops Q rest)):J c n σ M L (wpList P ops Q (⟨some d,.binOp .lss t x y t',ty,pos,aft,none⟩::rest)):=by
  simp only[Prod.mk.injEq]at h
  exact aJ (NL h.1 h.2.1) h.2.2 k
theorem dQ {t t':TypeId} {i:IntKind} {p q:Int} (h:(ev σ x,ev σ y,Nat.blt d n.sz)=(some (.int i p),some (.int i q),true)) (k:J c n ((d,.bool (decide (p=q)))::σ) M L (wpList P ops Q rest)):J c n σ M L (wpList P ops Q (⟨some d,.binOp .eql t x y t',ty,pos,aft,none⟩::rest)):=by
  simp only[Prod.mk.injEq]at h
  exact aJ (mU h.1 h.2.1) h.2.2 k
theorem dM {t t':TypeId} {i:IntKind} {p q:Int} (h:(ev σ x,ev σ y,Nat.blt d n.sz)=(some (.int i p),some (.int i q),true)) (k:J c n ((d,.int i (wI i (p+q)))::σ) M L (wpList P ops Q rest)):J c n σ M L (wpList P ops Q (⟨some d,.binOp .add t x y t',ty,pos,aft,none⟩::rest)):=by
  simp only[Prod.mk.injEq]at h
  exact aJ (MF h.1 h.2.1) h.2.2 k
theorem cdI {th el:Code} {p:Prop} {_:Decidable p} {β:Type} {u w:Option β} {r:β} (h:(if p then u else w)=some r) (hx:ev σ x=some (.bool (decide p))) (ht:p->u=some r->J c n σ M L (th.wpr rd P Q)) (hf:¬p->w=some r->J c n σ M L (el.wpr rd P Q)):J c n σ M L ((Code.cond x th el).wpr rd P Q):=SE hx (fun hp=>ht hp (BK hp h)) (fun hp=>hf hp (Wp hp h))
theorem gT {th el:Code} {p:Prop} {_:Decidable p} {β:Type} {u w:Option β} {r:β} (h:(if p then u else w)=some r) (hx:ev σ x=some (.bool (decide p))) (ht:u=some r->J c n σ M L (th.wpr rd P Q)) (hf:w=some r->J c n σ M L (el.wpr rd P Q)):J c n σ M L ((Code.cond x th el).wpr rd P Q):=cdI h hx (fun _=>ht) (fun _=>hf)
theorem gP {th el:Code} {b:Bool} {β:Type} {u w:Option β} {r:β} (h:(if b=true then u else w)=some r) (hx:ev σ x=some (.bool b)) (ht:b=true->u=some r->J c n σ M L (th.wpr rd P Q)) (hf:b=false->w=some r->J c n σ M L (el.wpr rd P Q)):J c n σ M L ((Code.cond x th el).wpr rd P Q):=JI hx (fun hp=>ht hp (BK hp h)) (fun hp=>hf hp (sM hp h))
theorem oD {d:Option Tmp} {op:Op} {j dj:Nat} {p:Prop} {_:Decidable p} {b:Bool} {β:Type} {u w:Option β} {r:β} (h:(if p then u else w)=some r) (hd:((ops[j]?).bind (·.dst),lk σ dj)=(some dj,some (.bool (decide p)))) (ht:p->u=some r->J c n ((dj,.bool true)::σ) M L (wpList P ops Q (⟨d,op,ty,pos,aft,some (j,b)⟩::rest))) (hf:¬p->w=some r->J c n ((dj,.bool false)::σ) M L (wpList P ops Q (⟨d,op,ty,pos,aft,some (j,b)⟩::rest))):J c n σ M L (wpList P ops Q (⟨d,op,ty,pos,aft,some (j,b)⟩::rest)):=P_ (Prod.mk.inj hd).1 (Prod.mk.inj hd).2 (fun hp=>ht hp (BK hp h)) (fun hp=>hf hp (Wp hp h))
theorem aU {ops:Array Oper} (h:J c n σ M L K):J c n σ M L (wpList P ops (Exit.then K Q) []):=h
theorem aZ {id:Nat} {l:List Oper} {z:Code} (h:J c n σ M L (wpList P l.toArray (Exit.then (z.wpr rd P Q) Q) l)) (hd:l.all iS=true:=by rfl):J c n σ M L ((Code.seq (Code.region id l.toArray false) z).wpr rd P Q):=aP (aS h hd)
variable {A B:Type} {ret:Unit->Value} {MO LO:Unit->List bX->List bX} {fn:Func} {C:A->Prop} {σI:A->B->Fr} {MI LI:A->B->List bX}
theorem kF {t:Tmp} (h:(ret (),fn.results,lk σ t,MO () [],LO () [],n.ds)=(v,#[.tmp t],some v,M,[],[])):J c n σ M L (u_ P fn (Qg c ret MO LO) .ret):=by
  simp only[Prod.mk.injEq]at h
  exact uD () h.1 h.2.1 (RV.tmp h.2.2.1) (h.2.2.2.1▸bH.refl _) (by rw[h.2.2.2.2.1];exact aV.nil) h.2.2.2.2.2
theorem yR {t:Tmp} (h:(ret (),fn.results,lk σ t,MO () [],LO () [],n.ds)=(v,#[.tmp t],some v,[],[],[])):J c n σ M L (u_ P fn (Qg c ret MO LO) .ret):=by
  simp only[Prod.mk.injEq]at h
  exact uD () h.1 h.2.1 (RV.tmp h.2.2.1) (by rw[h.2.2.2.1];exact bH.nil) (by rw[h.2.2.2.2.1];exact aV.nil) h.2.2.2.2.2
theorem Ep {x:Code} (C:A->Prop) (σI:A->B->Fr) (MI:A->B->List bX) (h1:J c n σ M L (x.wpr rd P (Exit.then (Qf c n C σI MI (fun _ _=>L)) Q))) (h2:∀a b,C a->J c n (σI a b) (MI a b) L K):J c n σ M L (x.wpr rd P (Exit.then K Q)):=iM C σI MI (fun _ _=>L) h1 h2
theorem fW {R:Type} {body:Code} (step:A->(A->Option R)->Option R) {r:R} {U:Nat} (σI:A->B->Fr) (MI:A->B->List bX) (a0:A) (b0:B) (h:bZ step U a0=some r) (hs:BY σ (σI a0 b0)) (hM:bH M (MI a0 b0)) (round:∀k a b,step a (bZ step k)=some r->J c n (σI a b) (MI a b) L (body.wpr rd P (Exit.then (SD c n step r σI MI (fun _ _=>L) k) Q))):J c n σ M L ((Code.loop body).wpr rd P Q):=jL step σI MI (fun _ _=>L) a0 b0 h hs hM (aV.refl _ _) round
theorem dD {x:Code} (C:A->Prop) (σI:A->Unit->Fr) (MI:A->Unit->List bX) (h1:J c n σ M L (x.wpr rd P (Exit.then (Qf c n C σI MI (fun _ _=>L)) Q))) (h2:∀a b,C a->J c n (σI a b) (MI a b) L K):J c n σ M L (x.wpr rd P (Exit.then K Q)):=Ep C σI MI h1 h2
theorem cC (h:J c n σ M L K):J c n σ M L (Code.skip.wpr rd P (Exit.then K Q)):=eJ h
theorem lP {id:Nat} (h:J c n σ M L K):J c n σ M L (Exit.inBlock id (Exit.then K Q) .normal):=h
theorem eQ {id:Nat} {K1 K2:Act->World->Prop} (h:J c n σ M L K):J c n σ M L ((Code.exit id).wpr rd P (Exit.then K1 (Exit.then K2 (Exit.inBlock id (Exit.then K Q))))):=Cp (nO (nO (Fb (SG h))))
theorem cZ (x:A) (y:B) (hC:C x) (hs:BY σ (σI x y)) (h:(MI x y,LI x y)=(M,L)):J c n σ M L (Qf c n C σI MI LI):=cK x y hC hs ((Prod.mk.inj h).1▸bH.refl _) ((Prod.mk.inj h).2▸aV.refl _ _)
theorem BR {R:Type} {step:A->(A->Option R)->Option R} {r:R} {k:Nat} (x:A) (y:B) (h:bZ step k x=some r) (hs:BY σ (σI x y)) (e:(MI x y,LI x y)=(M,L)):J c n σ M L (SD c n step r σI MI LI k):=dZ x y h hs ((Prod.mk.inj e).1▸bH.refl _) ((Prod.mk.inj e).2▸aV.refl _ _)
theorem aW.callQ {A:Type} {ret:A->Value} {MO:A->List bX->List bX} {f:FuncId} {xs:List Operand} {vs:List Value} {ats:Array TypeId} {L0:List bX} {d:Option Tmp} {g:Option (Nat×Bool)} (hb:bO P f) (hs:bQ P f vs.toArray L0 ret MO (fun _ l=>l)) (hx:xs.map (ev σ)=vs.map some) (hL:aV M L L0) (hMO:∀x l,MO x l=MO x []++l:=by exact fun _ _=>rfl):aW P c n σ M L ⟨d,.call ⟨.value (.func f),xs.toArray,ats⟩,ty,pos,aft,g⟩ ret (fun x=>MO x M) (fun _=>L):=Mw hb hs hx hL hMO
variable {l:List Oper} {m:List Nat} {k0:Nat} {Bs:List (Nat×List bX×List bX)} {rs:List Nat} {i:Nat}
theorem dG (h:(l[i]?,ev σ x,Nat.blt i k0,Nat.blt d n.sz)=(some ⟨some d,.move x,ty,pos,aft,none⟩,some v,true,true)) (k:JR c n ((d,v)::σ) M L [] ((i,[],[])::Bs) (RW P l.toArray Q (before m) (eN l) k0 rs)):JR c n σ M L [] Bs (RW P l.toArray Q (before m) (eN l) k0 (i::rs)):=by
  simp only[Prod.mk.injEq]at h
  exact dK h.1 bH.nil j_.nil (xF h.2.1) bG.z k h.2.2.1 rfl h.2.2.2
theorem eD [eM P] {T:TypeId} {s1 s2 s3 s4:Nat} {z z':Value} {fs:Array Field} {nm tg pk:String} {em:Bool} {ft off bo:Nat} {dF:TypeDesc} {b o f:Nat} (h:(l[i]?,ev σ x,eM.tab P T,fs[f]?,eM.tab P ft,s3==0,Nat.blt i k0,Nat.blt d n.sz)=(some ⟨some d,.fieldAddr T x f,ty,pos,aft,none⟩,some (.pointer (some ⟨b,o,none⟩)),some ⟨.struct fs,s1,s2,z⟩,some ⟨nm,ft,off,em,tg,pk,bo⟩,some ⟨dF,s3,s4,z'⟩,false,true,true)) (k:JR c n ((d,.pointer (some ⟨b,o+off,none⟩))::σ) M L [] ((i,[],[])::Bs) (RW P l.toArray Q (before m) (eN l) k0 rs)):JR c n σ M L [] Bs (RW P l.toArray Q (before m) (eN l) k0 (i::rs)):=by
  simp only[Prod.mk.injEq]at h
  exact dK h.1 bH.nil j_.nil (cF h.2.1 h.2.2.1 h.2.2.2.1 h.2.2.2.2.1 h.2.2.2.2.2.1) bG.z k h.2.2.2.2.2.2.1 rfl h.2.2.2.2.2.2.2
theorem gM [eM P] (p:Nat) {T T':TypeId} {s1 s2:Nat} {z:Value} {dT:TypeDesc} {b o:Nat} {cs:List Value} (h:(l[i]?,ev σ x,M[p]?,eM.tab P T,Bb dT,cs[o]?,Nat.blt i k0,Nat.blt d n.sz)=(some ⟨some d,.load T x,ty,pos,aft,none⟩,some (.pointer (some ⟨b,o,none⟩)),some (bJ b cs T'),some ⟨dT,s1,s2,z⟩,false,some v,true,true)) (k:JR c n ((d,v)::σ) M L [] ((i,[bJ b cs T'],[])::Bs) (RW P l.toArray Q (before m) (eN l) k0 rs)):JR c n σ M L [] Bs (RW P l.toArray Q (before m) (eN l) k0 (i::rs)):=by
  simp only[Prod.mk.injEq]at h
  exact dK h.1 (bH.cons p h.2.2.1 bH.nil) j_.nil (cT 0 h.2.1 rfl h.2.2.2.1 h.2.2.2.2.1 h.2.2.2.2.2.1) bG.z k h.2.2.2.2.2.2.1 rfl h.2.2.2.2.2.2.2
theorem Cc [eM P] (p:Nat) {T T':TypeId} {s2:Nat} {z:Value} {dT:TypeDesc} {b:Nat} {cs:List Value} (h:(l[i]?,ev σ x,M[p]?,eM.tab P T,Bb dT,Nat.blt i k0,Nat.blt d n.sz)=(some ⟨some d,.load T x,ty,pos,aft,none⟩,some (.pointer (some ⟨b,0,none⟩)),some (bJ b cs T'),some ⟨dT,cs.length,s2,z⟩,true,true,true)) (k:JR c n ((d,.agg cs.toArray)::σ) M L [] ((i,[bJ b cs T'],[])::Bs) (RW P l.toArray Q (before m) (eN l) k0 rs)):JR c n σ M L [] Bs (RW P l.toArray Q (before m) (eN l) k0 (i::rs)):=by
  simp only[Prod.mk.injEq]at h
  exact dK h.1 (bH.cons p h.2.2.1 bH.nil) j_.nil (iD 0 h.2.1 rfl h.2.2.2.1 h.2.2.2.2.1) bG.z k h.2.2.2.2.2.1 rfl h.2.2.2.2.2.2
end
section
theorem eP {β:Type} {p:Prop} [Decidable p] (hp:p) (x:Option β):ck p x=x:=if_pos hp
theorem wr {x:Int} (h1 : -9223372036854775808<=x) (h2:x<=9223372036854775807):wI .i64 x=x:=if_pos ⟨h1,h2⟩
theorem bU {β γ:Type} {x:Option β} {y:β} {f:β->Option γ} (h:x=some y):x.bind f=f y:=by rw[h];rfl
theorem Gv {α:Type} (l r:List α) (x y:α) (i:Nat) (h:l.length=i):(l++x::r).set i y=l++y::r:=by
 rw[List.set_append_right _ _ (by omega)];simp[<-h]
theorem gJ {α:Type} [Inhabited α] (l r:List α) (x:α) (i:Nat) (h:l.length=i):at' (l++x::r) (i:Int)=x:=by
 rw[SK,List.getD_eq_getElem?_getD,List.getElem?_append_right (by omega)];simp[<-h]
end
section
theorem gK {X R:Type} {step:X->(X->Option R)->Option R} {K:Option R} (N:Nat) (F:Nat->X) (hstep:∀(k:Nat) ag,k<N->step (F k) ag=ag (F (k+1))) (hend:∀ag,step (F N) ag=K):∀fuel,N<fuel->bZ step fuel (F 0)=K:=by
 have key:∀(d a fuel:Nat),a+d=N->d<fuel->bZ step fuel (F a)=K:=by
  intro d
  induction d with
  |zero=>
   intro a fuel ha hf
   obtain rfl:a=N:=by omega
   obtain⟨f,rfl⟩:∃f,fuel=f+1:=⟨fuel - 1,by omega⟩
   exact hend _
  |succ d ih=>
   intro a fuel ha hf
   obtain⟨f,rfl⟩:∃f,fuel=f+1:=⟨fuel - 1,by omega⟩
   show step (F a) (bZ step f)=K
   rw[hstep a _ (by omega)]
   exact ih (a+1) f (by omega) (by omega)
 exact fun fuel hf=>key N 0 fuel (by omega) hf
theorem M_ {X R:Type} {step:X->(X->Option R)->Option R} {K bad:Option R} (N:Nat) (p:Nat->Prop) (F:Nat->X) (hok:∀(k:Nat) ag,k<N->p k->step (F k) ag=ag (F (k+1))) (hbad:∀(k:Nat) ag,k<N->¬p k->step (F k) ag=bad) (hend:∀ag,step (F N) ag=K):
  ∀fuel,N<fuel->((∀k,k<N->p k)->bZ step fuel (F 0)=K)∧(¬(∀k,k<N->p k)->bZ step fuel (F 0)=bad):=by
 have key:∀(d a fuel:Nat),a+d=N->d<fuel->((∀k,a<=k->k<N->p k)->bZ step fuel (F a)=K)∧(¬(∀k,a<=k->k<N->p k)->bZ step fuel (F a)=bad):=by
  intro d
  induction d with
  |zero=>
   intro a fuel ha hf
   obtain rfl:a=N:=by omega
   obtain⟨f,rfl⟩:∃f,fuel=f+1:=⟨fuel - 1,by omega⟩
   exact⟨fun _=>hend _,fun h=>absurd (fun k h1 h2=>by omega) h⟩
  | succ d ih =>
   intro a fuel ha hf
   obtain⟨f,rfl⟩:∃f,fuel=f+1:=⟨fuel - 1,by omega⟩
   obtain⟨i1,i2⟩:=ih (a+1) f (by omega) (by omega)
   have e:bZ step (f+1) (F a)=step (F a) (bZ step f):=rfl
   rw[e]
   by_cases hp:p a
   ·rw[hok a _ (by omega) hp]
    refine⟨fun h=>i1 fun k h1 h2=>h k (by omega) h2,fun h=>i2 fun h'=>h fun k h1 h2=> ?_⟩
    by_cases hk:k=a
    ·subst hk;exact hp
    ·exact h' k (by omega) h2
   ·exact⟨fun h=>absurd (h a (Nat.le_refl _) (by omega)) hp,fun _=>hbad a _ (by omega) hp⟩
 intro fuel hf
 obtain⟨h1,h2⟩:=key N 0 fuel (by omega) hf
 exact⟨fun h=>h1 fun k _ hk=>h k hk,fun h=>h2 fun h'=>h fun k hk=>h' k (by omega) hk⟩
end
end Go.Sx
end
section
namespace Go.Proofs.YthnplbmmlbnelaaGreat
open Go Go.Sx
abbrev TM:=Int×Int
def CX (o:Int):Option Nat:=if o<1∨43<o then none else if o<=17 then some 0 else if o<=29 then some 1 else if o<=42 then some 2 else some 3
inductive X where
 |lf (t:TM)
 |un (t:TM) (x:X)
 |bi (t:TM) (x y:X)
 |tr (t:TM) (x y z:X)
def X.ts:X->List TM
 |lf t=>[t]
 |un t x=>t::x.ts
 |bi t x y=>t::(x.ts++y.ts)
 |tr t x y z=>t::(x.ts++(y.ts++z.ts))
def X.ok:X->Prop
 |lf t=>CX t.1=some 0
 |un t x=>CX t.1=some 1∧x.ok
 |bi t x y=>CX t.1=some 2∧x.ok∧y.ok
 |tr t x y z=>CX t.1=some 3∧x.ok∧y.ok∧z.ok
def agg (o:Int):Bool:=decide (20<=o)&&decide (o<=29)
def X.depth:X->Nat
 |lf _=>1
 |un _ x=>x.depth+1
 |bi _ x y=>max x.depth y.depth+1
 |tr _ x y z=>max x.depth (max y.depth z.depth)+1
def X.nest:X->Nat
 |lf _=>0
 |un t x=>x.nest+(if agg t.1 then 1 else 0)
 |bi _ x y=>max x.nest y.nest
 |tr _ x y z=>max x.nest (max y.nest z.nest)
theorem X.pos (x:X):1<=x.ts.length:=by cases x<;>simp[X.ts]
theorem X.depth_le:∀x:X,x.depth<=x.ts.length
 |lf _=>by simp[X.depth,X.ts]
 |un _ x=>by have:=x.depth_le;simp[X.depth,X.ts];omega
 |bi _ x y=>by have:=x.depth_le;have:=y.depth_le;simp[X.depth,X.ts];omega
 |tr _ x y z=>by have:=x.depth_le;have:=y.depth_le;have:=z.depth_le;simp[X.depth,X.ts];omega
def rn:Nat->List TM->Option Nat
 |0,_=>some 0
 |_+1,[]=>none
 |m+1,t::r=>match CX t.1 with
  |none=>none
  |some a=>(rn (m+a) r).map (· + 1)
theorem Hu (l:List TM):rn 0 l=some 0:=by cases l<;>rfl
theorem CJ {t:TM} {a:Nat} (h:CX t.1=some a) (m:Nat) (r:List TM):rn (m+1) (t::r)=(rn (m+a) r).map (· + 1):=by
 show(match CX t.1 with|none=>none|some a=>_)=_
 rw[h]
theorem KB {t:TM} (h:CX t.1=none) (m:Nat) (r:List TM):rn (m+1) (t::r)=none:=by
 show(match CX t.1 with|none=>none|some a=>_)=_
 rw[h]
theorem Gf {o:Int} {a:Nat} (h:CX o=some a):a<=3:=by
 unfold CX at h
 split at h
 ·cases h
 ·split at h
  ·cases h;omega
  ·split at h
   ·cases h;omega
   ·split at h<;>cases h<;>omega
theorem Js:∀(l:List TM) (m n:Nat),rn m l=some n->∃xs:List X,xs.length=m∧(∀x∈xs,x.ok)∧∃post,l=xs.flatMap X.ts++post∧n=(xs.flatMap X.ts).length
 |l,0,n,h=>by
  rw[Hu]at h;cases h
  exact⟨[],rfl,fun x hx=>(by cases hx),l,rfl,rfl⟩
 | [],m+1,n,h=>by cases h
 | t :: r, m + 1, n, h => by
  cases ha:CX t.1 with
  |none=>rw[KB ha]at h;cases h
  | some a =>
   rw[CJ ha]at h
   obtain⟨n',hn,rfl⟩:=Option.map_eq_some_iff.1 h
   obtain⟨xs,hl,hok,post,hr,rfl⟩:=Js r (m+a) n' hn
   have ha3:=Gf ha
   match a,ha,xs,hl,hok,hr with
   | 0, ha, xs, hl, hok, hr =>
    exact⟨.lf t::xs,by simp at hl ⊢;omega,fun x hx=>by
     rcases List.mem_cons.1 hx with rfl|hx
     ·exact ha
     ·exact hok x hx,post,by rw[hr];simp[X.ts],by simp[X.ts]<;>omega⟩
   | 1, ha, x :: xs, hl, hok, hr =>
    exact⟨.un t x::xs,by simp at hl ⊢;omega,fun y hy=>by
     rcases List.mem_cons.1 hy with rfl|hy
     ·exact⟨ha,hok x (by simp)⟩
     ·exact hok y (by simp[hy]),post,by rw[hr];simp[X.ts],by simp[X.ts]<;>omega⟩
   | 2, ha, x :: y :: xs, hl, hok, hr =>
    exact⟨.bi t x y::xs,by simp at hl ⊢;omega,fun q hq=>by
     rcases List.mem_cons.1 hq with rfl|hq
     ·exact⟨ha,hok x (by simp),hok y (by simp)⟩
     ·exact hok q (by simp[hq]),post,by rw[hr];simp[X.ts],by simp[X.ts]<;>omega⟩
   | 3, ha, x :: y :: z :: xs, hl, hok, hr =>
    exact⟨.tr t x y z::xs,by simp at hl ⊢;omega,fun q hq=>by
     rcases List.mem_cons.1 hq with rfl|hq
     ·exact⟨ha,hok x (by simp),hok y (by simp),hok z (by simp)⟩
     ·exact hok q (by simp[hq]),post,by rw[hr];simp[X.ts],by simp[X.ts]<;>omega⟩
theorem Ij:∀(x:X),x.ok->∀(m:Nat) (post:List TM),rn (m+1) (x.ts++post)=(rn m post).map (· + x.ts.length)
 | .lf t,h,m,post=>by
  show rn (m+1) (t::post)=_
  rw[CJ h];rfl
 | .un t x,h,m,post=>by
  show rn (m+1) (t::(x.ts++post))=_
  rw[CJ h.1,Ij x h.2]
  simp[X.ts,Option.map_map,Function.comp_def,Nat.add_assoc]
 | .bi t x y,h,m,post=>by
  show rn (m+1) (t::((x.ts++y.ts)++post))=_
  rw[CJ h.1,List.append_assoc,show m+2=m+1+1 from rfl,Ij x h.2.1,Ij y h.2.2]
  simp[X.ts,Option.map_map,Function.comp_def]
  congr 1;funext q;omega
 | .tr t x y z,h,m,post=>by
  show rn (m+1) (t::((x.ts++(y.ts++z.ts))++post))=_
  rw[CJ h.1,List.append_assoc,List.append_assoc,show m+3=m+2+1 from rfl,Ij x h.2.1,show m+2=m+1+1 from rfl,Ij y h.2.2.1,Ij z h.2.2.2]
  simp[X.ts,Option.map_map,Function.comp_def]
  congr 1;funext q;omega
def Db (T:List TM) (k:Nat):Int:=match rn 1 (T.drop k)with
 |some n=>((k+n:Nat):Int)
 |none=> -1
theorem Pe {T:List TM} (h:Db T 0=T.length) (h0:0<T.length):∃x:X,x.ok∧T=x.ts:=by
 unfold Db at h
 rw[List.drop_zero]at h
 cases hr:rn 1 T with
 |none=>rw[hr]at h;simp at h<;>omega
 | some n =>
  rw[hr]at h
  obtain⟨xs,hl,hok,post,hT,hn⟩:=Js T 1 n hr
  match xs,hl with
  | [x], _ =>
   refine⟨x,hok x (by simp),?_⟩
   have:post=[]:=by
    have h2:=congrArg List.length hT
    simp at h2 h hn
    exact List.eq_nil_of_length_eq_zero (by omega)
   rw[hT,this];simp
theorem Fv {T pre post:List TM} {x:X} {k:Nat} (hx:x.ok) (hT:T=pre++(x.ts++post)) (hk:pre.length=k):Db T k=((k+x.ts.length:Nat):Int):=by
 unfold Db
 rw[hT,<-hk,List.drop_left,Ij x hx,Hu]
 simp
theorem Kg {x:X} (hx:x.ok):Db x.ts 0=x.ts.length:=by
 have:=Fv (T:=x.ts) (pre:=[]) (post:=[]) (k:=0) hx (by simp) rfl
 rw[this];simp
end Go.Proofs.YthnplbmmlbnelaaGreat
end
section
set_option linter.unusedSectionVars false
namespace Go.Sx
open Go.RowKit
section defs
variable {κ ν:Type} [DecidableEq κ]
def Ic (ek:κ->Value) (ev:ν->Value):Nat->List (κ×ν)->List MapEntry
 |_,[]=>[]
 |i,x::xs=>⟨ek x.1,ev x.2,i⟩::Ic ek ev (i+1) xs
def uN (k:κ):List (κ×ν)->Option ν
 | []=>none
 |x::xs=>if k=x.1 then some x.2 else uN k xs
def AK (k:κ) (v:ν):List (κ×ν)->List (κ×ν)
 | []=>[(k,v)]
 |x::xs=>if k=x.1 then(k,v)::xs else x::AK k v xs
def Bw (ev:ν->Value) (k:κ):Nat->List (κ×ν)->Option (Nat×Value)
 |_,[]=>none
 |i,x::xs=>if k=x.1 then some (i,ev x.2)else Bw ev k (i+1) xs
theorem Kj (ev:ν->Value) (k:κ):∀(i:Nat) (l:List (κ×ν)),(Bw ev k i l).map (·.2)=(uN k l).map ev
 |_,[]=>rfl
 |i,x::xs=>by
  simp only[Bw,uN]
  split
  ·rfl
  ·exact Kj ev k (i+1) xs
theorem Ie (ek:κ->Value) (ev:ν->Value):∀(i:Nat) (l:List (κ×ν)) (x:κ×ν),Ic ek ev i (l++[x])=Ic ek ev i l++[⟨ek x.1,ev x.2,i+l.length⟩]
 |i,[],x=>rfl
 |i,y::ys,x=>by
  simp only[List.cons_append,Ic,Ie ek ev (i+1) ys x,List.length_cons]
  rw[show i+1+ys.length=i+(ys.length+1) by omega]
theorem Jq (k:κ) (v:ν):∀l:List (κ×ν),uN k l=none->AK k v l=l++[(k,v)]
 | [],_=>rfl
 | x :: xs, h => by
  simp only[uN]at h
  split at h
  ·cases h
  ·rename_i hne
   simp only[AK,if_neg hne,Jq k v xs h,List.cons_append]
theorem NX (ek:κ->Value) (ev:ν->Value) (k:κ) (v:ν):∀(i0 i:Nat) (l:List (κ×ν)) (j:Nat) (u:Value),Bw ev k i l=some (j,u)->
  i<=j∧((Ic ek ev i l)[j - i]?).map (·.key)=some (ek k)∧Ic ek ev i (AK k v l)=(Ic ek ev i l).modify (j - i) (fun e=>{e with key:=ek k,val:=ev v})∧(AK k v l).length=l.length
 |_,i,[],j,u,h=>by simp[Bw]at h
 | i0, i, x :: xs, j, u, h => by
  simp only[Bw]at h
  split at h
  ·rename_i he
   simp only[Option.some.injEq,Prod.mk.injEq]at h
   obtain⟨rfl,_⟩:=h
   simp[Ic,AK,he]
  ·rename_i hne
   obtain⟨h1,h2,h3,h4⟩:=NX ek ev k v i0 (i+1) xs j u h
   have hj:j - i=(j - (i+1))+1:=by omega
   refine⟨by omega,?_,?_,?_⟩
   ·rw[hj];simpa [Ic]using h2
   ·simp only[AK,if_neg hne,Ic]
    rw[hj,List.modify_succ_cons,h3]
   ·simp[AK,hne,h4]
end defs
structure Fc (P:Program) (kt:TypeId) {κ:Type} [DecidableEq κ] (ek:κ->Value):Prop where
 chk:∀b k w,(Instr.checkKey b 10000 kt (ek k)).run P w = .ok () w
 find:∀{ν:Type} (ev:ν->Value) (k:κ) (l:List (κ×ν)) w,(Instr.findKey kt (ek k) (Ic ek ev 0 l)).run P w = .ok (Bw ev k 0 l) w
 same:∀k,Instr.sameBits 10000 (ek k) (ek k)=true
def Mp {κ ν:Type} (ek:κ->Value) (ev:ν->Value) (r:Nat) (l:List (κ×ν)):bX where
 p w F:=F r∧w.heap[r]? = some (.map (Ic ek ev 0 l).toArray l.length)
 mono:=fun⟨h1,h2⟩ h=>by
  obtain⟨h3,h4⟩:=h r h1 (Array.getElem?_eq_some_iff.1 h2).1
  exact⟨h3,by rw[h4];exact h2⟩
section
variable {P:Program} {rd:Option Nat} {c:Ax} {n:Sz} {σ:Fr} {M L:List bX} {Q:Exit->Act->World->Prop} {ops:Array Oper} {rest:List Oper}
variable {d:Option Tmp} {ty:TypeId} {pos:String} {aft:Array Edge} {g:Option (Nat×Bool)}
theorem St.push {w:World} (t:St c M L w) (o:Obj) {m:bX} (hm:m.p (w.alloc o) (fun k=>k=w.heap.size)):St c (m::M) L (w.alloc o):=by
 have e:Ml w (w.alloc o):=(Below.refl _ _).alloc (Nat.le_refl _) _
 obtain⟨ho,F,hF,hL⟩:=t
 have hb:∀k,k<w.heap.size->(w.alloc o).heap[k]? = w.heap[k]? := e.block
 refine⟨ho.trans e,fun i k=>match i with|0=>k=w.heap.size|i+1=>F i k,⟨?_,?_,?_⟩,fun f hf=> ?_⟩
 ·intro i m' hm'
  cases i with
  |zero=>simp at hm';subst hm';exact hm
  |succ i=>exact bX.same (hF.res i m' (by simpa using hm')) (fun _ h=>h) (fun k _ hl=>hb k hl)
 ·intro i k hk
  cases i with
  |zero=>subst hk;exact⟨.inl ho.size,by simp⟩
  |succ i=>exact⟨(hF.rng i k hk).1,Nat.lt_of_lt_of_le (hF.rng i k hk).2 e.size⟩
 ·intro i j k hi hj
  cases i with
  |zero=>
   cases j with
   |zero=>rfl
   |succ j=>have:=(hF.rng j k hj).2;simp only at hi;omega
  |succ i=>
   cases j with
   |zero=>have:=(hF.rng i k hi).2;simp only at hj;omega
   |succ j=>exact congrArg (· + 1) (hF.dis i j k hi hj)
 ·exact f.mono (hL f hf) fun k hk hl=>⟨⟨hk.1,fun i hi=>by
   cases i with
   |zero=>simp only at hi;omega
   |succ i=>exact hk.2 i hi⟩,hb k hl⟩
variable {κ ν:Type} [DecidableEq κ] {ek:κ->Value} {ev:ν->Value}
theorem aW.makeMap (ek:κ->Value) (ev:ν->Value) {T:TypeId}:aW P c n σ M L ⟨d,.makeMap T none,ty,pos,aft,g⟩ (fun r:Nat=> .map (some r)) (fun r=>Mp ek ev r []::M) (fun _=>L):=fun a w s t=>by
 have hrun:(execOp a.eval ⟨d,.makeMap T none,ty,pos,aft,g⟩).run P w = .ok (.value (.map (some w.heap.size))) (w.alloc (.map #[] 0)):=by
  simp[execOp,Instr.makeMap]
 simp only[Oper.wp,hrun,Oper.upon]
 exact⟨w.heap.size,rfl,t.push _ ⟨rfl,heap_alloc_new w _⟩⟩
theorem Nr [eM P] {T kt vt:TypeId} {s1 s2 s3 s4:Nat} {z zv:Value} {dv:TypeDesc} {w:World} {r:Nat} {l:List (κ×ν)} {F:Nat->Prop} (hk:Fc P kt ek) (hM:(Mp ek ev r l).p w F)
  (hT:eM.tab P T=some ⟨.map kt vt,s1,s2,z⟩) (hV:eM.tab P vt=some ⟨dv,s3,s4,zv⟩) (k:κ) (b:Bool):
  (Instr.lookup T (.map (some r)) (ek k) b).run P w = .ok (if b then .tuple #[((uN k l).map ev).getD zv,.bool (uN k l).isSome]else((uN k l).map ev).getD zv) w:=by
 have hg:(getObj r).run P w = .ok (.map (Ic ek ev 0 l).toArray l.length) w:=by
  simp[getObj,Sem.run,hM.2]
 have hf:=hk.find ev k l w
 have hfg:=Kj ev k 0 l
 simp only[Instr.lookup]
 simp[(eM.ok hT).run_und w,hg,hk.chk,hf]
 cases hfd:Bw ev k 0 l with
 |none=>
  rw[hfd]at hfg
  have:uN k l=none:=by cases h:uN k l<;>simp[h]at hfg ⊢
  simp[this,(eM.ok hV).run_zero w]
 | some x =>
  rw[hfd]at hfg
  obtain⟨v,hv,hx⟩:∃v,uN k l=some v∧ev v=x.2:=by
   cases h:uN k l with
   |none=>simp[h]at hfg
   |some v=>simp[h]at hfg;exact⟨v,rfl,hfg.symm⟩
  simp[hv,hx]
theorem HB [eM P] (j:Nat) {T kt vt:TypeId} {s1 s2 s3 s4:Nat} {z zv:Value} {dv:TypeDesc} {x y:Operand} {r:Nat} {l:List (κ×ν)} (k:κ) {b:Bool} (hk:Fc P kt ek) (hx:Go.Sx.ev σ x=some (.map (some r))) (hy:Go.Sx.ev σ y=some (ek k)) (hf:M[j]? = some (Mp ek ev r l))
  (hT:eM.tab P T=some ⟨.map kt vt,s1,s2,z⟩) (hV:eM.tab P vt=some ⟨dv,s3,s4,zv⟩) {u:Value} (hu:((uN k l).map ev).getD zv=u):
  Y P c n σ M L ⟨d,.lookup T x y b,ty,pos,aft,g⟩ (if b then .tuple #[u,.bool (uN k l).isSome]else u):=fun a w s t=>by
 obtain⟨F,hF⟩:=t.res hf
 subst hu
 simp[execOp,s.eval hx,s.eval hy,Nr hk hF hT hV]
theorem Dz {w:World} {r:Nat} {es:Array MapEntry} {k:Nat} (h:w.heap[r]? = some (.map es k)) (o:Obj):(setObj r o).run P w = .ok () {w with heap:=w.heap.setIfInBounds r o}:=by
 simp[setObj,Sem.run,h]
theorem St.setMap {w:World} (t:St c M L w) {j r:Nat} {l l':List (κ×ν)} (hf:M[j]? = some (Mp ek ev r l)) (o:Obj) (ho:o = .map (Ic ek ev 0 l').toArray l'.length):
  St c (M.set j (Mp ek ev r l')) L {w with heap:=w.heap.setIfInBounds r o}:=
 t.upd hf rfl rfl rfl (by simp) fun F hF _=>⟨fun k _ hk=>by
   rw[Array.getElem?_setIfInBounds_ne (fun e=>hk (by subst e;exact hF.1))],F,⟨hF.1,by
    rw[Array.getElem?_setIfInBounds_self_of_lt (Array.getElem?_eq_some_iff.1 hF.2).1,ho]⟩,fun _ h=> .inl h⟩
theorem Df [eM P] (j:Nat) {T kt vt:TypeId} {s1 s2:Nat} {z:Value} {x y v:Operand} {r:Nat} {l:List (κ×ν)} (k:κ) (nv:ν) (hk:Fc P kt ek) (hx:Go.Sx.ev σ x=some (.map (some r))) (hy:Go.Sx.ev σ y=some (ek k)) (hv:Go.Sx.ev σ v=some (ev nv)) (hf:M[j]? = some (Mp ek ev r l))
  (hT:eM.tab P T=some ⟨.map kt vt,s1,s2,z⟩) (h:J c n σ (M.set j (Mp ek ev r (AK k nv l))) L (wpList P ops Q rest)):
  J c n σ M L (wpList P ops Q (⟨none,.mapUpdate T x y v,ty,pos,aft,none⟩::rest)):=fun a w s t=>by
 refine mO rfl ?_
 obtain⟨F,hF⟩:=t.res hf
 have hg:(getObj r).run P w = .ok (.map (Ic ek ev 0 l).toArray l.length) w:=by
  simp[getObj,Sem.run,hF.2]
 have hfd:=hk.find ev k l w
 have hfg:=Kj ev k 0 l
 have hrun:∃o:Obj,(execOp a.eval ⟨none,.mapUpdate T x y v,ty,pos,aft,none⟩).run P w = .ok .skip {w with heap:=w.heap.setIfInBounds r o}∧o = .map (Ic ek ev 0 (AK k nv l)).toArray (AK k nv l).length:=by
  simp only[execOp,s.eval hx,s.eval hy,s.eval hv,Instr.mapUpdate]
  cases hfn:Bw ev k 0 l with
  |none=>
   rw[hfn]at hfg hfd
   have hn:uN k l=none:=by cases h:uN k l<;>simp[h]at hfg ⊢
   refine⟨.map (Ic ek ev 0 l++[(⟨ek k,ev nv,l.length⟩:MapEntry)]).toArray (l.length+1),by simp[(eM.ok hT).run_und w,hg,hk.chk,hfd,Dz hF.2],?_⟩
   rw[Jq k nv l hn,Ie];simp
  | some q =>
   obtain⟨i,u⟩:=q
   rw[hfn]at hfd
   obtain⟨_,h2,h3,h4⟩:=NX ek ev k nv 0 0 l i u hfn
   rw[Nat.sub_zero]at h2 h3
   have hkey:(((Ic ek ev 0 l).toArray[i]?).map (·.key)).getD (ek k)=ek k:=by
    rw[List.getElem?_toArray,h2];rfl
   refine⟨.map ((Ic ek ev 0 l).toArray.modify i fun e=>{e with key:=ek k,val:=ev nv}) l.length,?_,?_⟩
   ·have hst:(Instr.keyThatStays (ek k) (ek k)).run P w = .ok (ek k) w:=by simp[Instr.keyThatStays,hk.same k]
    have hkey':(Option.map (fun x=>x.key) (Ic ek ev 0 l)[i]?).getD (ek k)=ek k:=by rw[h2];rfl
    simp[(eM.ok hT).run_und w,hg,hk.chk,hfd,hkey',hst,Dz hF.2]
   ·rw[h3,h4];simp
 obtain⟨o,hr,ho⟩:=hrun
 simp only[Oper.wp,hr,Oper.upon]
 exact h _ _ s (t.setMap hf o ho)
end
end Go.Sx
end
section
set_option linter.unusedSectionVars false
namespace Go.Sx
open Go.RowKit Go.ChangeMaps
section
variable {κ ν:Type} [DecidableEq κ] {ek:κ->Value} {ev:ν->Value} {R:Type}
def rem (l:List (κ×ν)) (seen:List Nat):List (κ×ν):=((List.range l.length).filter (fun i=> !seen.contains i)).filterMap (fun i=>l[i]?)
end
section
variable {P:Program} {rd:Option Nat} {c:Ax} {n:Sz} {σ σ':Fr} {M L M' L':List bX} {Q:Exit->Act->World->Prop} {ops:Array Oper} {rest:List Oper}
variable {d:Option Tmp} {ty:TypeId} {pos:String} {aft:Array Edge} {g:Option (Nat×Bool)}
variable {κ ν:Type} [DecidableEq κ] {ek:κ->Value} {ev:ν->Value} {R:Type}
theorem Fc.plain {kt:TypeId} {d:TypeDesc} (hu:P.underlying kt=some d) (chk:∀b k w,(Instr.checkKey b 10000 kt (ek k)).run P w = .ok () w) (now:∀a b,Instr.sameNow d (ek a) (ek b)=some (decide (a=b)))
  (same:∀k,Instr.sameBits 10000 (ek k) (ek k)=true):Fc P kt ek:=by
 refine⟨chk,fun {ν'} ev' k l w=> ?_,same⟩
 have fn:∀(l:List (κ×ν')) (i:Nat),Instr.findNow d (ek k) (Ic ek ev' i l) i=some (Bw ev' k i l):=by
  intro l
  induction l with
  |nil=>intro i;simp[Ic,Bw,Instr.findNow]
  |cons x xs ih=>
   intro i
   simp only[Ic,Bw,Instr.findNow,now]
   by_cases h:k=x.1
   ·simp[h]
   ·simp[h,ih]
 unfold Instr.findKey
 simp[run_underlying hu w,fn]
end
end Go.Sx
end
section
namespace Go.Sx
open Go.RowKit
section
section
variable {P:Program} {rd:Option Nat} {c:Ax} {n:Sz} {σ σ':Fr} {M L M' L':List bX} {Q:Exit->Act->World->Prop} {ops:Array Oper} {rest:List Oper} {K:Act->World->Prop} {G:Act->World->Prop}
variable {d:Option Tmp} {D:Nat} {ty:TypeId} {pos:String} {aft:Array Edge} {g:Option (Nat×Bool)}
variable {α β:Type} {e:nV α} {r:kJ α}
def Dw:Value->Bool
 | .slice none _ _=>true
 |_=>false
theorem OQ {v:Value} {xs:List α} (hf:aM M L (Sl r v xs)) (h1:Dw v=true->xs=[]->J c n σ M L G) (h2:Dw v=false->J c n σ M L G):J c n σ M L G:=fun a w s t=>by
 cases hb:Dw v with
 |false=>exact h2 hb a w s t
 |true=>
  refine h1 hb ?_ a w s t
  obtain⟨S,a',cap,hv,_,hx⟩:=hf.st t
  subst hv
  rcases hx with hx|⟨b,off,ha,_⟩
  ·exact hx
  ·subst ha;cases hb
theorem PC {T E:TypeId} {dT:Ty} {w:World} {a:Option Addr} {l k:Nat} (hT:sT P T dT) (hd:dT.desc = .slice E):(binOp .eql T (.slice a l k) (.slice none 0 0)).run P w = .ok (.bool (Dw (.slice a l k))) w:=by
 have hu:=hT.run_und w
 have key:∀m:Nat,(Op.equalIn (m+1) T (.slice a l k) (.slice none 0 0)).run P w = .ok (Dw (.slice a l k)) w:=by
  intro m
  unfold Op.equalIn
  rw[hd]at hu
  cases a<;>simp[hu,Dw]
 have h:(Op.equal T (.slice a l k) (.slice none 0 0)).run P w = .ok (Dw (.slice a l k)) w:=key 9999
 simp[binOp,h]
theorem NK [eM P] {T E:TypeId} {s1 s2:Nat} {z:Value} {x:Operand} {v:Value} {xs:List α} {b:Bool} {t':TypeId} (hx:ev σ x=some v) (hf:aM M L (Sl r v xs)) (hb:Dw v=b) (hT:eM.tab P T=some ⟨.slice E,s1,s2,z⟩):
  Y P c n σ M L ⟨d,.binOp .eql T x (.const (.slice none 0 0)) t',ty,pos,aft,g⟩ (.bool b):=fun a w s t=>by
 obtain⟨S,a',cap,hv,_,_⟩:=hf.st t
 subst hv
 have hr:=PC (w:=w) (a:=a') (l:=xs.length) (k:=cap) (eM.ok hT) rfl
 have hc:a.eval (.const (.slice none 0 0)) = .slice none 0 0:=rfl
 rw[hb]at hr
 simp[execOp,s.eval hx,hc,eqGuard,hr]
def Ux {A B:Type} (c:Ax) (C:A->Prop) (val:A->B->Value) (MI LI:A->B->List bX) (e:Ending) (w:World):Prop:=∃x y,C x∧e = .returned (val x y)∧St c (MI x y) (LI x y) w
theorem MW {fn:Func} {vs:List Value} {m:Nat} (hn:fn.ntmps=m) (hm:Nat.ble vs.length m=true):GG ⟨m,[]⟩ (Dv 0 vs) {tmps:=vs.toArray++Array.replicate (fn.ntmps - vs.toArray.size) undef,defers:=[]}:=by
 have hle:vs.length<=m:=by simpa using hm
 refine⟨rfl,by simp[hn,hle],?_⟩
 intro t v hv
 obtain⟨_,h2⟩:=GN vs 0 t v hv
 rw[Nat.sub_zero]at h2
 have hlt:t<vs.length:=by
  rcases Nat.lt_or_ge t vs.length with h'|h'
  ·exact h'
  ·rw[List.getElem?_eq_none h']at h2;cases h2
 rw[Array.getElem?_append_left (by simpa using hlt)]
 simpa using h2
structure xR (P:Program) (c:Ax) (n:Sz) (σ:Fr) (M L:List bX) (o:Oper) (f:FuncId) (vs:List Value):Prop where
 run:∀a w,GG n σ a->St c M L w->(execOp a.eval o).run P w = .ok (.enter f vs.toArray) w
theorem xR.fn {f:FuncId} {xs:List Operand} {vs:List Value} {ats:Array TypeId} (hb:bO P f) (hx:xs.map (ev σ)=vs.map some):xR P c n σ M L ⟨d,.call ⟨.value (.func f),xs.toArray,ats⟩,ty,pos,aft,g⟩ f vs:=⟨fun a w s _=>by
 have e:=XH s hx
 simp[execOp,resolve,Act.eval,Deferred.ofValue,invoke,hb _ w,e]⟩
def G_ (P:Program) (c:Ax) (n:Sz) (σ:Fr) (M L:List bX) (fn:Func) (v:Value):Prop:=∀a w,GG n σ a->St c M L w->(results fn a.tmps).run P w = .ok v w
variable {fn:Func}
theorem G_.r0 (hres:fn.results = #[]):G_ P c n σ M L fn (.tuple #[]):=fun a w _ _=>by simp[results,hres]
theorem G_.r1 {r1:ResultVar} {v1:Value} (hres:fn.results = #[r1]) (h1:RV P c n σ M L r1 v1):G_ P c n σ M L fn v1:=fun a w s t=>by
 have:=h1 a w s t
 simp only[CI,hres]
 simp[this]
theorem pR {A B:Type} {m:Sz} {v:Value} {ex:Exit} {C:A->Prop} {val:A->B->Value} {MI LI:A->B->List bX} (x:A) (y:B) (hC:C x) (hex:ex = .ret∨ex = .normal) (hr:G_ P c m σ' M L fn v) (hv:v=val x y) (hM:bH M (MI x y)) (hL:aV [] L (LI x y)) (hds:m.ds=[]:=by rfl):
  J c m σ' M L (u_ P fn (Ux c C val MI LI) ex):=fun a w s t=>by
 exact body_end hex (s.defers.trans hds) (hr a w s t) ⟨x,y,hC,by rw[hv],t.weakE hM hL⟩
end
end
section
section
variable {P:Program} {rd:Option Nat} {c:Ax} {n:Sz} {σ σ':Fr} {M L M' L':List bX} {Q:Exit->Act->World->Prop} {ops:Array Oper} {rest:List Oper} {K:Act->World->Prop} {G:Act->World->Prop}
variable {d:Option Tmp} {D:Nat} {ty:TypeId} {pos:String} {aft:Array Edge} {g:Option (Nat×Bool)}
variable {α β:Type} {e:nV α} {r:kJ α}
theorem JJ {A:Type} {val:A->Value} {M' L':A->List bX} {op:Op} (ho:aW P c n σ M L ⟨none,op,ty,pos,aft,none⟩ val M' L') (h:∀x,J c n σ (M' x) (L' x) (wpList P ops Q rest)):
  J c n σ M L (wpList P ops Q (⟨none,op,ty,pos,aft,none⟩::rest)):=fun a w s t=>
 mO rfl (If (oP (fun a' w' ⟨x,he,ht⟩=>by subst he;exact h x _ w' s ht) (ho a w s t)))
end
end
section
section
variable {P:Program} {rd:Option Nat} {c:Ax} {n:Sz} {σ σ':Fr} {M L M' L':List bX} {Q:Exit->Act->World->Prop} {ops:Array Oper} {rest:List Oper} {K:Act->World->Prop} {G:Act->World->Prop}
variable {d:Option Tmp} {D:Nat} {ty:TypeId} {pos:String} {aft:Array Edge} {g:Option (Nat×Bool)}
variable {α β:Type} {e:nV α} {r:kJ α}
theorem Et [eM P] (i:Nat) {T T':TypeId} {s2:Nat} {z:Value} {dT:TypeDesc} {x y:Operand} {b:Nat} {cs vs:List Value} (hx:ev σ x=some (.pointer (some ⟨b,0,none⟩)))
  (hy:ev σ y=some (.agg vs.toArray)) (hv:vs.all one=true) (hM:M[i]? = some (bJ b cs T')) (hT:eM.tab P T=some ⟨dT,vs.length,s2,z⟩) (hl:Nat.beq vs.length cs.length=true):
  aW P c n σ M L ⟨none,.store T x y,ty,pos,aft,none⟩ (fun _:Unit=>undef) (fun _=>M.set i (bJ b vs T')) (fun _=>L):=fun a w s t=>by
 obtain⟨F,hF⟩:=t.res hM
 have hlen:vs.length=cs.length:=Nat.eq_of_beq_eq_true hl
 have hone:∀v∈vs,v.oneCell'=true:=fun v hvm=>oQ (by simpa using List.all_eq_true.1 hv v hvm)
 obtain⟨iT,hiT,hsz,_,_⟩:=(eM.ok hT).info
 have hst:=run_storeVar_row (P:=P) w b T' T cs.toArray vs.toArray hF.2 (by simp[hiT,hsz]) (by simp[hlen]) (by simpa using hone)
 have hrun:(execOp a.eval ⟨none,.store T x y,ty,pos,aft,none⟩).run P w = .ok .skip (w.setRow b vs.toArray):=by
  simp[execOp,s.eval hx,s.eval hy,Instr.storeAt,Instr.sureAddr,hst]
 simp only[Oper.wp,hrun,Oper.upon]
 exact⟨(),trivial,t.fill hM⟩
section
variable {l:List Oper} {m:List Nat} {k0:Nat} {H Bs:List (Nat×List bX×List bX)} {rs:List Nat}
theorem KX {A:Type} {val:A->Value} {M' L':A->List bX} {i:Nat} {op:Op}
  (hi:l[i]? = some ⟨none,op,ty,pos,aft,none⟩) (hk:Nat.blt i k0=true) (hl:fK op=true) (ho:aW P c n σ M L ⟨none,op,ty,pos,aft,none⟩ val M' L')
  (hB:∀x,Cn (before m i) (M' x) (L' x) Bs) (h:∀x,JR c n σ (M' x) (L' x) ((i,M,L)::H) Bs (RW P l.toArray Q (before m) (eN l) k0 rs)):
  JR c n σ M L H Bs (RW P l.toArray Q (before m) (eN l) k0 (i::rs)):=fun a w X Y s t hX hY=>by
 have hi':l.toArray[i]? = some ⟨none,op,ty,pos,aft,none⟩:=by simpa using hi
 simp only[RW,hi']
 rw[if_pos (by simp[Region.wanted])]
 refine .inr (.inr ⟨by simpa [Nat.blt_eq]using hk,by simp[eN,hi,hl],oP ?_ (ho a w s t)⟩)
 rintro a' w' ⟨x,rfl,ht⟩
 exact⟨(hB x).use ht hY,h x _ w' _ Y s ht ⟨rfl,t,hX⟩ hY⟩
end
theorem OU {A B:Type} {f:FuncId} {fn:Func} {code:Code} {vs:List Value} {m:Nat} {op:Op} (C:A->Prop) (val:A->B->Value) (MI LI:A->B->List bX) (he:xR P c n σ M L ⟨d,op,ty,pos,aft,g⟩ f vs) (hf:P.funcs[f]? = some fn) (hb:fn.body=some code) (hn:fn.ntmps=m) (hm:Nat.ble vs.length m=true)
  (h1:J c ⟨m,[]⟩ (Dv 0 vs) M L (code.wpr none P (u_ P fn (Ux c C val MI LI)))):
  aW P c n σ M L ⟨d,op,ty,pos,aft,g⟩ (fun x:{p:A×B // C p.1}=>val x.1.1 x.1.2) (fun x=>MI x.1.1 x.1.2) (fun x=>LI x.1.1 x.1.2):=fun a w s t=>by
 have hrun:=he.run a w s t
 simp only[Oper.wp,hrun,Oper.upon]
 refine(AP hf hb (h1 _ w (MW hn hm) t)).mono ?_
 rintro e w' ⟨x,y,hC,rfl,ht⟩
 exact⟨⟨(x,y),hC⟩,rfl,ht⟩
theorem xD {A B:Type} {f:FuncId} {fn:Func} {code:Code} {vs:List Value} {m:Nat} {op:Op} (C:A->Prop) (val:A->B->Value) (MI LI:A->B->List bX) (he:xR P c n σ M L ⟨some D,op,ty,pos,aft,none⟩ f vs) (hf:P.funcs[f]? = some fn) (hb:fn.body=some code) (hn:fn.ntmps=m) (hm:Nat.ble vs.length m=true) (hD:Nat.blt D n.sz=true)
  (h1:J c ⟨m,[]⟩ (Dv 0 vs) M L (code.wpr none P (u_ P fn (Ux c C val MI LI)))) (h2:∀a b,C a->J c n ((D,val a b)::σ) (MI a b) (LI a b) (wpList P ops Q rest)):J c n σ M L (wpList P ops Q (⟨some D,op,ty,pos,aft,none⟩::rest)):=
 aT (OU C val MI LI he hf hb hn hm h1) hD fun⟨⟨a,b⟩,hC⟩=>h2 a b hC
theorem Dm [eM P] {T E:TypeId} {k s1 s2 s3 s4:Nat} {z z':Value} {dE:TypeDesc} {x y:Operand} {b:Nat} {i:Int} (j:Nat) (hx:ev σ x=some (.pointer (some ⟨b,0,none⟩))) (hy:ev σ y=some (.int .i64 i))
  (hT:eM.tab P T=some ⟨.array k E,s1,s2,z⟩) (hE:eM.tab P E=some ⟨dE,s3,s4,z'⟩) (h3:(s3==0)=false) (hi:i=(j:Int)) (hj:Nat.blt j k=true):
  Y P c n σ M L ⟨d,.indexAddr T x y,ty,pos,aft,g⟩ (.pointer (some ⟨b,j*s3,none⟩)):=by
 have hj':j<k:=by simpa [Nat.blt_eq]using hj
 have:=Cs (P:=P) (c:=c) (n:=n) (σ:=σ) (M:=M) (L:=L) (d:=d) (ty:=ty) (pos:=pos) (aft:=aft) (g:=g) (i:=i) hx hy hT hE h3 (by omega)
 rwa[show i.toNat=j by omega]at this
theorem i_ {x:Operand} {b o:Nat} (hx:ev σ x=some (.pointer (some ⟨b,o,none⟩))):Y P c n σ M L ⟨d,.nilCheck x,ty,pos,aft,g⟩ (.pointer (some ⟨b,o,none⟩)):=fun a w s t=>by
 simp[execOp,s.eval hx]
theorem Dj [eM P] [Inhabited α] (j:Nat) {T:TypeId} {s2 k o q:Nat} {z:Value} {dT:TypeDesc} {x y:Operand} {v u:Value} {us:List Value} {i:Int} {xs:List α} (yv:α) (h:0<=i∧i<xs.length) (hx:ev σ x=some (HN v (i.toNat*q+o))) (hy:ev σ y=some u)
  (hf:M[j]? = some (Ar e v xs)) (hq:e.sz=q) (hu:u.cells=us.toArray) (hk:us.length=k) (ho:Nat.ble (o+k) q=true) (hyv:e.enc yv=(e.enc (at' xs i)).take o++us++(e.enc (at' xs i)).drop (o+k)) (h1u:us.all one=true) (hT:eM.tab P T=some ⟨dT,k,s2,z⟩):
  aW P c n σ M L ⟨none,.store T x y,ty,pos,aft,none⟩ (fun _:Unit=>undef) (fun _=>M.set j (Ar e v (xs.set i.toNat yv))) (fun _=>L):=fun a w s t=>by
 subst hq hk
 have hok:o+us.length<=e.sz:=by simpa using ho
 have hi:i.toNat<xs.length:=by omega
 have t0:=t
 obtain⟨hoo,FF,hO,hLL⟩:=t0
 obtain⟨h0,hone,hh⟩:=hO.res j _ hf
 rcases hh with⟨_,rfl⟩|⟨b,off,cap,T',cur,rfl,hFb,hbk,hcp,hc,ht⟩
 ·simp at hi
 -- the parts of the row
 obtain⟨l,x0,tl,hxs,hl⟩:∃l x0 tl,xs=l++x0::tl∧l.length=i.toNat:=⟨xs.take i.toNat,xs[i.toNat],xs.drop (i.toNat+1),by rw[List.getElem_cons_drop,List.take_append_drop],by simp;omega⟩
 have hat:at' xs i=x0:=by
  rw[at',List.getD_eq_getElem?_getD,<-hl,hxs,List.getElem?_append_right (Nat.le_refl _)];simp
 rw[hat]at hyv
 have eE:=e.len x0
 have eA:(cellsOf e l).length=i.toNat*e.sz:=by rw[eZ,hl]
 have hcells:cellsOf e xs=cellsOf e l++(e.enc x0++cellsOf e tl):=by rw[hxs];simp[cellsOf]
 have hset:cellsOf e (xs.set i.toNat yv)=cellsOf e l++(e.enc yv++cellsOf e tl):=by
  have:xs.set i.toNat yv=l++yv::tl:=by rw[hxs,<-hl,List.set_append_right _ _ (Nat.le_refl _)];simp
  rw[this];simp[cellsOf]
 have hmul:xs.length*e.sz<=cap*e.sz:=Nat.mul_le_mul_right _ hcp
 obtain⟨Hd,R,hcur,hH⟩:∃Hd R,cur.toList=Hd++(cellsOf e l++(e.enc x0++(cellsOf e tl++R)))∧Hd.length=off:=by
  refine⟨cur.toList.take off,(cur.toList.drop off).drop (xs.length*e.sz),?_,by simp;omega⟩
  have e1:cellsOf e l++(e.enc x0++(cellsOf e tl++(cur.toList.drop off).drop (xs.length*e.sz)))=cur.toList.drop off:=by
   have:cellsOf e l++(e.enc x0++(cellsOf e tl++(cur.toList.drop off).drop (xs.length*e.sz)))=cellsOf e xs++(cur.toList.drop off).drop (xs.length*e.sz):=by rw[hcells];simp
   rw[this,<-ht,List.take_append_drop]
  rw[e1,List.take_append_drop]
 have hsize:cur.size=cur.toList.length:=by simp
 have hp1:cur.toList.take (off+(i.toNat*e.sz+o))=Hd++(cellsOf e l++(e.enc x0).take o):=by
  have:cur.toList=(Hd++(cellsOf e l++(e.enc x0).take o))++((e.enc x0).drop o++(cellsOf e tl++R)):=by
   rw[hcur,List.append_assoc,List.append_assoc,<-List.append_assoc ((e.enc x0).take o),List.take_append_drop]
  rw[this]
  exact List.take_left' (by simp[hH,eA,eE];omega)
 have hp2:cur.toList.drop (off+(i.toNat*e.sz+o)+us.length)=(e.enc x0).drop (o+us.length)++(cellsOf e tl++R):=by
  have:cur.toList=(Hd++(cellsOf e l++(e.enc x0).take (o+us.length)))++((e.enc x0).drop (o+us.length)++(cellsOf e tl++R)):=by
   rw[hcur,List.append_assoc,List.append_assoc,<-List.append_assoc ((e.enc x0).take (o+us.length)),List.take_append_drop]
  rw[this]
  exact List.drop_left' (by simp[hH,eA,eE];omega)
 have hbound:(i.toNat+1)*e.sz<=xs.length*e.sz:=Nat.mul_le_mul_right _ (by omega)
 have hb2:(i.toNat+1)*e.sz=i.toNat*e.sz+e.sz:=by rw[Nat.add_mul,Nat.one_mul]
 have hfit:off+(i.toNat*e.sz+o)+0+us.length<=cur.size:=by omega
 have hst:=run_storeCells_at P b (off+(i.toNat*e.sz+o)) T' us 0 cur w hbk hfit (fun u hu=>oQ (List.all_eq_true.1 h1u u hu))
 simp only[Nat.add_zero]at hst
 have hsz:(eM.ok hT).run_size w=(eM.ok hT).run_size w:=rfl
 have hrun:(execOp a.eval ⟨none,.store T x y,ty,pos,aft,none⟩).run P w = .ok .skip (w.setRow b (cur.toList.take (off+(i.toNat*e.sz+o))++us++cur.toList.drop (off+(i.toNat*e.sz+o)+us.length)).toArray):=by
  simp[execOp,s.eval hx,s.eval hy,HN,IF,Instr.storeAt,Instr.sureAddr,storeVar,hu,(eM.ok hT).run_size w,fM,hst]
 simp only[Oper.wp,hrun,Oper.upon]
 refine⟨(),trivial,?_⟩
 refine Fg hoo hO hLL hf rfl rfl rfl (by simp) (fun k _ hk'=>setRow_other w b k _ (fun e=>hk' (by subst e;exact hFb))) (F':=FF j) ?_ (fun k hk=> .inl hk)
 have hlen2:(e.enc yv).length=e.sz:=e.len yv
 refine⟨by simpa using h0,?_,.inr ⟨b,off,cap,T',_,by simp,hFb,setRow_heap w b _ _ T' _ hbk,by simpa using hcp,?_,?_⟩⟩
 ·rw[hset]
  rw[hcells]at hone
  simp only[List.all_append,Bool.and_eq_true]at hone ⊢
  refine⟨hone.1,?_,hone.2.2⟩
  rw[hyv]
  simp only[List.all_append,Bool.and_eq_true]
  refine⟨⟨List.all_eq_true.2 fun u hu=>List.all_eq_true.1 hone.2.1 u (List.mem_of_mem_take hu),h1u⟩,List.all_eq_true.2 fun u hu=>List.all_eq_true.1 hone.2.1 u (List.mem_of_mem_drop hu)⟩
 ·simp only[List.size_toArray,List.length_append,List.length_take,List.length_drop]
  omega
 ·show((cur.toList.take _++us++cur.toList.drop _).drop off).take ((xs.set i.toNat yv).length*e.sz)=_
  rw[hp1,hp2,hset,hyv,List.length_set]
  have e3:(Hd++(cellsOf e l++(e.enc x0).take o)++us++((e.enc x0).drop (o+us.length)++(cellsOf e tl++R)))=Hd++((cellsOf e l++(((e.enc x0).take o++us++(e.enc x0).drop (o+us.length))++cellsOf e tl))++R):=by simp
  rw[e3,<-hH,List.drop_left]
  refine List.take_left' ?_
  have hT2:(cellsOf e tl).length=tl.length*e.sz:=eZ e tl
  have hxl:xs.length=i.toNat+1+tl.length:=by rw[hxs,<-hl];simp;omega
  rw[hyv]at hlen2
  rw[List.length_append,List.length_append,hlen2,eA,hT2,hxl,Nat.add_mul,Nat.add_mul,Nat.one_mul]
  omega
end
end
end Go.Sx
end
