/- Models of functions with their proofs, by program (gen/xt.py), and plain laws, in one text. Conditions: none. -/
import Derived.WalkKit
import Derived.RangeFuncRecord
import Derived.OrdersIn
import Derived.TacticsIn
import Derived.DefersIn
import Derived.Test.YtdbcpliafeoghaaGreatProg
import Derived.Deep.AppendSrc
import Derived.Test.YtdbcpliafeoghaaGreatRows
import Derived.ProofKit
import Derived.Deep.Slices
import Derived.Lib.SmallJoins
import Derived.Maps.RangeRun
import Derived.Lib.Strings
import Derived.Lib.AppendZeros
import Derived.Laws.CopyRow
set_option linter.unusedVariables false
set_option linter.unusedSimpArgs false
set_option maxHeartbeats 4000000
set_option maxRecDepth 20000
section
namespace Go.Sx
open Go.RowKit
def FR (r:Option Nat):Fence:={Fence.wide with round:=r}
theorem FR_fenced (P:Program) (r:Option Nat):Machine.fenced P (FR r)=Machine.fenced P Fence.wide:=rfl
theorem FR_room (r:Option Nat) (n:Nat):(FR r).room n:=fun _ h=>by cases h
theorem callsFR {r:Option Nat} {n:Nat} {P:Program} {f:FuncId} {args:Array Value} {w:World} {R:Ending->World->Prop} (h:Calls P f args w R):CallsIn (FR r) n P f args w R:=
 ⟨trivial,fun cs _=>let ⟨e,w',fr,hr,s,x⟩:=h cs;⟨e,w',fr,hr,(FR_fenced P r▸comesIn_wide.2 s),x⟩⟩
theorem callsFR' {r:Option Nat} {n:Nat} {P:Program} {f:FuncId} {args:Array Value} {w:World} {R:Ending->World->Prop} (h:CallsIn (FR r) n P f args w R):Calls P f args w R:=
 fun cs=>let ⟨e,w',fr,hr,s,x⟩:=h.2 cs (FR_room r _);⟨e,w',fr,hr,ComesIn.comes s,x⟩
def _root_.Go.Code.wpr (r:Option Nat) (P:Program) (c:Code) (Q:Exit->Act->World->Prop) (a:Act) (w:World):Prop:=c.wpIn (FR r) 0 P Q a w
section
variable {r:Option Nat} {P:Program} {Q:Exit->Act->World->Prop} {a:Act} {w:World}
theorem wpr_mono {c:Code} {Q':Exit->Act->World->Prop} (hq:∀e a w,Q e a w->Q' e a w) (h:c.wpr r P Q a w):c.wpr r P Q' a w:=Code.wpIn_mono hq h
theorem wpr_seq {x y:Code} (h:x.wpr r P (Exit.then (y.wpr r P Q) Q) a w):(Code.seq x y).wpr r P Q a w:=wpIn_seq h
theorem wpr_block {id:Nat} {x:Code} (h:x.wpr r P (Exit.inBlock id Q) a w):(Code.block id x).wpr r P Q a w:=wpIn_block h
theorem wpr_skip (h:Q .normal a w):Code.skip.wpr r P Q a w:=wpIn_skip h
theorem wpr_exit {id:Nat} (h:Q (.exit id) a w):(Code.exit id).wpr r P Q a w:=wpIn_exit h
theorem wpr_ret (h:Q .ret a w):Code.ret.wpr r P Q a w:=wpIn_ret h
theorem wpr_cond_split {x:Operand} {th el:Code} {b:Bool} (hc:a.eval x = .bool b) (ht:b=true->th.wpr r P Q a w) (hf:b=false->el.wpr r P Q a w):(Code.cond x th el).wpr r P Q a w:=wpIn_cond_split hc ht hf

def _root_.Go.Oper.rnd (P:Program) (o:Oper) (a:Act) (w:World) (K:Act->World->Prop):Prop:=
 ∃l f tmps assign body w',(execOp a.eval o).run P w = .ok (.round l f tmps assign body) w'∧RoundIn (FR none) 0 P l f tmps assign body w' fun e w''=>∃v,e = .returned v∧K (a.put o.dst v) w''
theorem _root_.Go.Oper.rnd_mono {o:Oper} {K K':Act->World->Prop} (hk:∀a w,K a w->K' a w) (h:o.rnd P a w K):o.rnd P a w K':=by
 obtain⟨l,f,tmps,assign,body,w',h1,h2⟩:=h
 exact⟨l,f,tmps,assign,body,w',h1,h2.mono fun e w'' ⟨v,he,hv⟩=>⟨v,he,hk _ _ hv⟩⟩
def noDefer (o:Oper):Bool:=match o.op with|.defer _=>false|_=>true
theorem semAt_no {o:Oper} (h:noDefer o=true) (r:Option Nat) (ρ:Operand->Value):o.semAt r ρ=execOp ρ o:=
 Oper.semAt_eq r ρ o fun c hc=>by unfold noDefer at h;rw[hc]at h;cases h
theorem rowsFR {n:Nat} {row:String} {args:Array Value} {R:Value->World->Prop} (h:Rows P row args w R):RowsIn (FR r) n P row args w R:=fun c cs _=>
 let ⟨v,w',hr,s⟩:=h c cs;⟨v,w',hr,(FR_fenced P r▸stepsIn_wide.2 s)⟩
theorem wp_in {o:Oper} {K:Act->World->Prop} (hd:noDefer o=true) (h:o.wp P a w K Q∨o.rnd P a w K):o.wpIn (FR r) 0 P a w K Q:=by
 refine⟨fun _ _=>trivial,?_⟩
 rw[semAt_no hd]
 rcases h with h|h
 ·unfold Oper.wp at h
  cases hr:(execOp a.eval o).run P w with
  | ok x w' =>
   rw[hr]at h
   cases x with
   |value v=>exact h
   |skip=>exact h
   |defer d=>exact h
   |enter f args=>
    refine⟨(fun hc=>by cases hc),(callsFR h).mono ?_⟩
    intro e w'' he
    cases e<;>exact he
   |row rw args=>exact⟨(fun hc=>by cases hc),rowsFR h⟩
   |_=>exact h.elim
  |halt x w'=>
   rw[hr]at h
   cases x<;>first|exact h|exact h.elim
 ·obtain⟨l,f,tmps,assign,body,w',h1,h2⟩:=h
  rw[h1]
  refine⟨(fun hc=>by cases hc),?_⟩
  exact⟨trivial,fun c cs _=>by
   obtain⟨e,w'',⟨v,he,hv⟩,s⟩:=h2.2 c cs (FR_room none _)
   subst he
   exact⟨.returned v,w'',hv,s⟩⟩
end
def wpList (P:Program) (ops:Array Oper) (Q:Exit->Act->World->Prop):List Oper->Act->World->Prop
 | [],a,w=>Q .normal a w
 |o::rest,a,w=>
  if Region.wanted o (yielded ops a.tmps)then o.wp P a w (wpList P ops Q rest) Q∨o.rnd P a w (wpList P ops Q rest)else wpList P ops Q rest (a.put o.dst undef) w
theorem wpList_in {r:Option Nat} {P:Program} {ops:Array Oper} {Q:Exit->Act->World->Prop}:∀(l:List Oper) (a:Act) (w:World),l.all noDefer=true->wpList P ops Q l a w->wpListIn (FR r) 0 P ops Q l a w
 | [],_,_,_,h=>h
 | o :: rest, a, w, hd, h => by
  simp only[List.all_cons,Bool.and_eq_true]at hd
  unfold wpList at h
  unfold wpListIn
  by_cases hw:Region.wanted o (yielded ops a.tmps)=true
  ·rw[if_pos hw]at h ⊢
   refine wp_in hd.1 ?_
   rcases h with h|h
   ·exact .inl (Oper.wp_mono (fun a w h=>wpList_in rest a w hd.2 h) h)
   ·exact .inr (Oper.rnd_mono (fun a w h=>wpList_in rest a w hd.2 h) h)
  ·rw[if_neg hw]at h ⊢
   exact⟨fun _ _=>trivial,wpList_in rest _ w hd.2 h⟩
theorem wpr_region_lit {r:Option Nat} {P:Program} {Q:Exit->Act->World->Prop} {a:Act} {w:World} {id:Nat} {l:List Oper} (hd:l.all noDefer=true) (h:wpList P l.toArray Q l a w):(Code.region id l.toArray false).wpr r P Q a w:=
 wpIn_region_lit (wpList_in l a w hd h)

def wpOp (P:Program) (ops:Array Oper) (Q:Exit->Act->World->Prop) (i:Nat) (K:Act->World->Prop) (a:Act) (w:World):Prop:=
 match ops[i]? with
 |none=>K a w
 |some o=>if Region.wanted o (yielded ops a.tmps)then o.wp P a w K Q∨o.rnd P a w K else K (a.put o.dst undef) w
def wpAny (P:Program) (md:Region.Mode) (ops:Array Oper) (Q:Exit->Act->World->Prop):Nat->Array Bool->Act->World->Prop
 |0,listed,a,w=>Region.ready md ops listed=[]∧Q .normal a w
 |fuel+1,listed,a,w=>
  (Region.ready md ops listed=[]->Q .normal a w)∧
  ∀i∈Region.ready md ops listed,wpOp P ops Q i (wpAny P md ops Q fuel (listed.setIfInBounds i true)) a w
section
variable {r:Option Nat} {P:Program} {ops:Array Oper} {Q:Exit->Act->World->Prop}
theorem wpOp_in {i:Nat} {K K':Act->World->Prop} {a:Act} {w:World} (hd:∀o,ops[i]? = some o->noDefer o=true) (hk:∀a w,K a w->K' a w) (h:wpOp P ops Q i K a w):wpOpIn (FR r) 0 P ops Q i K' a w:=by
 unfold wpOp at h
 unfold wpOpIn
 cases ho:ops[i]? with
 |none=>rw[ho]at h;exact hk _ _ h
 | some o =>
  rw[ho]at h
  dsimp only at h ⊢
  by_cases hw:Region.wanted o (yielded ops a.tmps)=true
  ·rw[if_pos hw]at h ⊢
   refine wp_in (hd o ho) ?_
   rcases h with h|h
   ·exact .inl (Oper.wp_mono hk h)
   ·exact .inr (Oper.rnd_mono hk h)
  ·rw[if_neg hw]at h ⊢
   exact⟨fun _ _=>trivial,hk _ _ h⟩
theorem wpAny_in {md:Region.Mode} (hd:∀(i:Nat) (o:Oper),ops[i]? = some o->noDefer o=true):∀(fuel:Nat) (listed:Array Bool) (a:Act) (w:World),wpAny P md ops Q fuel listed a w->wpAnyIn (FR r) 0 P md ops Q fuel listed a w
 |0,_,_,_,h=>h
 |fuel+1,listed,a,w,h=>⟨h.1,fun i hi=>wpOp_in (hd i) (fun a w h=>wpAny_in hd fuel _ a w h) (h.2 i hi)⟩
theorem noDefer_all {l:List Oper} (h:l.all noDefer=true) (i:Nat) (o:Oper) (ho:l.toArray[i]? = some o):noDefer o=true:=by
 have hm:o∈l:=by
  rw[List.getElem?_toArray]at ho
  exact List.mem_of_getElem? ho
 exact List.all_eq_true.1 h o hm
theorem wpr_region_any {id:Nat} {l:List Oper} {a:Act} {w:World} (hd:l.all noDefer=true) (hm:P.follows .mixedOrders=true)
  (h:wpAny P .any l.toArray Q l.toArray.size (Array.replicate l.toArray.size false) a {w with drawn:=w.drawn+1}):(Code.region id l.toArray true).wpr r P Q a w:=
 wpIn_region_any hm (wpAny_in (noDefer_all hd) _ _ _ _ h)
end

def bodyPost (P:Program) (fn:Func) (R:Ending->World->Prop):Exit->Act->World->Prop:=bodyPostM (FR none) 0 P fn R
theorem calls_of_wpr {P:Program} {f:FuncId} {fn:Func} {c:Code} {args:Array Value} {w:World} {R:Ending->World->Prop} (hf:P.funcs[f]? = some fn) (hb:fn.body=some c)
  (h:c.wpr none P (bodyPost P fn R) {tmps:=args++Array.replicate (fn.ntmps - args.size) undef,defers:=[]} w):Calls P f args w R:=
 callsFR' (r:=none) (callsIn_of_wp_marks hf hb trivial h)
theorem body_end {P:Program} {fn:Func} {R:Ending->World->Prop} {a:Act} {w:World} {v:Value} {e:Exit} (he:e = .ret∨e = .normal) (hd:a.defers=[]) (hr:(results fn a.tmps).run P w = .ok v w) (hR:R (.returned v) w):bodyPost P fn R e a w:=by
 rcases he with rfl|rfl
 ·show LeavesInM (FR none) 0 P fn a.tmps R a.defers .returning w
  rw[hd];exact⟨v,hr,hR⟩
 ·show LeavesInM (FR none) 0 P fn a.tmps R a.defers .returning w
  rw[hd];exact⟨v,hr,hR⟩
end Go.Sx
end
section
namespace Go.Sx
open Go.RowKit

abbrev Fr:=List (Nat×Value)
def lk:Fr->Nat->Option Value
 | [],_=>none
 |(k,v)::r,t=>bif Nat.beq t k then some v else lk r t
def ev (σ:Fr):Operand->Option Value
 | .tmp t=>lk σ t
 | .const v=>some v
 | .global g=>some (.pointer (some ⟨g,0,none⟩))
 | .func f=>some (.func (.func f) #[] #[])
structure Sz where
 sz:Nat
 ds:List Deferred
structure Sub (n:Sz) (σ:Fr) (a:Act):Prop where
 defers:a.defers=n.ds
 size:a.tmps.size=n.sz
 slot:∀t v,lk σ t=some v->a.tmps[t]? = some v
theorem Sub.eval {n:Sz} {σ:Fr} {a:Act} (h:Sub n σ a) {x:Operand} {v:Value} (hx:ev σ x=some v):a.eval x=v:=by
 cases x with
 |tmp t=>simp only[ev]at hx;have:=h.slot t v hx;simp[Act.eval,this]
 |const u=>simpa [ev,Act.eval]using hx
 |global g=>simpa [ev,Act.eval]using hx
 |func f=>simpa [ev,Act.eval]using hx
theorem beq_ne {t d:Nat} (e:t≠d):Nat.beq t d=false:=by
 cases h:Nat.beq t d with
 |false=>rfl
 |true=>exact absurd (Nat.eq_of_beq_eq_true h) e
theorem Sub.put {n:Sz} {σ:Fr} {a:Act} (h:Sub n σ a) (d:Nat) (v:Value) (hd:Nat.blt d n.sz=true):Sub n ((d,v)::σ) (a.put (some d) v):=by
 have hd':d<n.sz:=by simpa [Nat.blt_eq]using hd
 refine⟨h.defers,by simp[Act.put,h.size],fun t u ht=> ?_⟩
 simp only[lk]at ht
 by_cases e:t=d
 ·subst e
  simp at ht
  subst ht
  simp[Act.put,h.size,hd']
 ·rw[beq_ne e]at ht
  simp only[cond_false]at ht
  simp only[Act.put]
  rw[Array.getElem?_setIfInBounds_ne (Ne.symm e)]
  exact h.slot t u ht
def SubF (σ σ':Fr):Prop:=∀t v,lk σ' t=some v->lk σ t=some v
theorem SubF.nil {σ:Fr}:SubF σ []:=fun _ _ h=>by simp[lk]at h
theorem SubF.cons {σ σ':Fr} {t:Nat} {v:Value} (h:lk σ t=some v) (r:SubF σ σ'):SubF σ ((t,v)::σ'):=by
 intro u x hx
 simp only[lk]at hx
 by_cases e:u=t
 ·subst e;simp at hx;subst hx;exact h
 ·rw[beq_ne e]at hx;exact r u x hx
theorem Sub.weak {n:Sz} {σ σ':Fr} {a:Act} (h:Sub n σ a) (hs:SubF σ σ'):Sub n σ' a:=
 ⟨h.defers,h.size,fun t v hv=>h.slot t v (hs t v hv)⟩
theorem SF {σ σ':Fr} (h:SubF σ σ':=by repeat (first|exact SubF.nil|refine SubF.cons rfl ?_)):SubF σ σ':=h

structure Fact where
 p:World->(Nat->Prop)->Prop
 mono:∀{w w':World} {S S':Nat->Prop},p w S->(∀k,S k->k<w.heap.size->S' k∧w'.heap[k]? = w.heap[k]?)->p w' S'
structure Ctx where
 w0:World
 S0:Nat->Prop
 O:Nat->Prop:=fun _=>False
def Ctx.mine (c:Ctx) (k:Nat):Prop:=c.w0.heap.size<=k∨c.O k
def Ctx.all (c:Ctx) (k:Nat):Prop:=c.S0 k∨c.mine k
abbrev Ext (w w':World):Prop:=Below w.heap.size w w'
structure Kept (O:Nat->Prop) (w w':World):Prop where
 os:w'.os=w.os
 tape:w'.tape=w.tape
 output:w'.output=w.output
 size:w.heap.size<=w'.heap.size
 block:∀k,k<w.heap.size->¬O k->w'.heap[k]? = w.heap[k]?
theorem Kept.refl {O:Nat->Prop} (w:World):Kept O w w:=⟨rfl,rfl,rfl,Nat.le_refl _,fun _ _ _=>rfl⟩
theorem Kept.trans {O:Nat->Prop} {a b c:World} (h:Kept O a b) (k:Ext b c):Kept O a c:=
 ⟨k.os.trans h.os,k.tape.trans h.tape,k.output.trans h.output,Nat.le_trans h.size k.size,fun i hi ho=>(k.block i (Nat.lt_of_lt_of_le hi h.size)).trans (h.block i hi ho)⟩
theorem Kept.ext {w w':World} (h:Kept (fun _=>False) w w'):Ext w w':=⟨h.os,h.tape,h.output,h.size,fun k hk=>h.block k hk id⟩
structure Own (c:Ctx) (w:World) (M:List Fact) (F:Nat->Nat->Prop):Prop where
 res:∀(i:Nat) (m:Fact),M[i]? = some m->m.p w (F i)
 rng:∀i k,F i k->c.mine k∧k<w.heap.size
 dis:∀i j k,F i k->F j k->i=j
def Free (c:Ctx) (F:Nat->Nat->Prop) (k:Nat):Prop:=c.all k∧∀i,¬F i k
structure St (c:Ctx) (M L:List Fact) (w:World):Prop where
 old:Kept c.O c.w0 w
 own:∃F:Nat->Nat->Prop,Own c w M F∧∀f∈L,f.p w (Free c F)
theorem Fact.same {f:Fact} {w w':World} {S S':Nat->Prop} (h:f.p w S) (hS:∀k,S k->S' k) (e:∀k,S k->k<w.heap.size->w'.heap[k]? = w.heap[k]?):f.p w' S':=
 f.mono h fun k hk hl=>⟨hS k hk,e k hk hl⟩

def SubM (M M':List Fact):Prop:=∃g:Nat->Nat,(∀i j,i<M'.length->j<M'.length->g i=g j->i=j)∧∀(i:Nat) (m:Fact),M'[i]? = some m->M[g i]? = some m
theorem SubM.refl (M:List Fact):SubM M M:=⟨id,fun _ _ _ _ h=>h,fun _ _ h=>h⟩
theorem St.weak {c:Ctx} {M L M' L':List Fact} {w:World} (h:St c M L w) (hM:SubM M M') (hL:∀f∈L',f∈L):St c M' L' w:=by
 obtain⟨ho,F,hF,hf⟩:=h
 obtain⟨g,hg,hm⟩:=hM
 refine⟨ho,fun i k=>i<M'.length∧F (g i) k,⟨fun i m hi=> ?_,fun i k hk=>hF.rng _ k hk.2,fun i j k hi hj=>hg i j hi.1 hj.1 (hF.dis _ _ k hi.2 hj.2)⟩,fun f hfl=> ?_⟩
 ·have hlt:i<M'.length:=by
   rcases Nat.lt_or_ge i M'.length with h'|h'
   ·exact h'
   ·rw[List.getElem?_eq_none h']at hi;cases hi
  exact Fact.same (hF.res _ m (hm i m hi)) (fun k hk=>⟨hlt,hk⟩) (fun _ _ _=>rfl)
 ·exact Fact.same (hf f (hL f hfl)) (fun k hk=>⟨hk.1,fun i hi=>hk.2 _ hi.2⟩) (fun _ _ _=>rfl)

def J (c:Ctx) (n:Sz) (σ:Fr) (M L:List Fact) (G:Act->World->Prop):Prop:=∀a w,Sub n σ a->St c M L w->G a w
section rules
variable {P:Program} {rd:Option Nat} {c:Ctx} {n:Sz} {σ σ':Fr} {M M' L L':List Fact} {G G':Act->World->Prop} {Q:Exit->Act->World->Prop}
theorem J.seq {x y:Code} (h:J c n σ M L (x.wpr rd P (Exit.then (y.wpr rd P Q) Q))):J c n σ M L ((Code.seq x y).wpr rd P Q):=fun a w s t=>wpr_seq (h a w s t)
theorem J.block {id:Nat} {x:Code} (h:J c n σ M L (x.wpr rd P (Exit.inBlock id Q))):J c n σ M L ((Code.block id x).wpr rd P Q):=fun a w s t=>wpr_block (h a w s t)
theorem J.skip (h:J c n σ M L (Q .normal)):J c n σ M L (Code.skip.wpr rd P Q):=fun a w s t=>wpr_skip (h a w s t)
theorem J.ret (h:J c n σ M L (Q .ret)):J c n σ M L (Code.ret.wpr rd P Q):=fun a w s t=>wpr_ret (h a w s t)
theorem J.cond {x:Operand} {th el:Code} {b:Bool} (hx:ev σ x=some (.bool b)) (ht:b=true->J c n σ M L (th.wpr rd P Q)) (hf:b=false->J c n σ M L (el.wpr rd P Q)):
  J c n σ M L ((Code.cond x th el).wpr rd P Q):=fun a w s t=>wpr_cond_split (s.eval hx) (fun h=>ht h a w s t) (fun h=>hf h a w s t)
theorem J.region {id:Nat} {l:List Oper} (h:J c n σ M L (wpList P l.toArray Q l)) (hd:l.all noDefer=true:=by rfl):J c n σ M L ((Code.region id l.toArray false).wpr rd P Q):=fun a w s t=>wpr_region_lit hd (h a w s t)
theorem J.done {ops:Array Oper} (h:J c n σ M L (Q .normal)):J c n σ M L (wpList P ops Q []):=h

variable {K:Act->World->Prop}
theorem J.thenN (h:J c n σ M L K):J c n σ M L (Exit.then K Q .normal):=h
theorem J.thenR (h:J c n σ M L (Q .ret)):J c n σ M L (Exit.then K Q .ret):=h
theorem J.inN {id:Nat} (h:J c n σ M L (Q .normal)):J c n σ M L (Exit.inBlock id Q .normal):=h
theorem J.inR {id:Nat} (h:J c n σ M L (Q .ret)):J c n σ M L (Exit.inBlock id Q .ret):=h



def Y (P:Program) (c:Ctx) (n:Sz) (σ:Fr) (M L:List Fact) (o:Oper) (v:Value):Prop:=
 ∀a w,Sub n σ a->St c M L w->(execOp a.eval o).run P w = .ok (.value v) w
theorem wpList_take {ops:Array Oper} {rest:List Oper} {o:Oper} {a:Act} {w:World} (hw:Region.wanted o (yielded ops a.tmps)=true)
  (h:o.wp P a w (wpList P ops Q rest) Q):wpList P ops Q (o::rest) a w:=by
 unfold wpList;rw[if_pos hw];exact .inl h
theorem J.quiet {ops:Array Oper} {rest:List Oper} {d:Nat} {op:Op} {ty:TypeId} {pos:String} {aft:Array Edge} {v:Value}
  (hy:Y P c n σ M L ⟨some d,op,ty,pos,aft,none⟩ v) (hd:Nat.blt d n.sz=true) (h:J c n ((d,v)::σ) M L (wpList P ops Q rest)):
  J c n σ M L (wpList P ops Q (⟨some d,op,ty,pos,aft,none⟩::rest)):=fun a w s t=>
 wpList_take rfl (by simp only[Oper.wp,hy a w s t,Oper.upon];exact h _ w (s.put d v hd) t)
theorem J.condD {x:Operand} {th el:Code} {p:Prop} {_:Decidable p} (hx:ev σ x=some (.bool (decide p))) (ht:p->J c n σ M L (th.wpr rd P Q)) (hf:¬p->J c n σ M L (el.wpr rd P Q)):
  J c n σ M L ((Code.cond x th el).wpr rd P Q):=J.cond hx (fun h=>ht (of_decide_eq_true h)) (fun h=>hf (of_decide_eq_false h))
end rules
end Go.Sx
end
section
namespace Go.Sx
open Go.RowKit

structure Ty where
 desc:TypeDesc
 size:Nat
 bytes:Nat
 zero:Value
structure TyOk (P:Program) (T:Nat) (d:Ty):Prop where
 und:P.underlying T=some d.desc
 info:∃i,P.info? T=some i∧i.size=d.size∧i.bytes=d.bytes∧i.zero=some d.zero
class Tab (P:Program) where
 tab:Nat->Option Ty
 ok:∀{T d},tab T=some d->TyOk P T d
section
variable {P:Program} {T:Nat} {d:Ty} (w:World)
theorem TyOk.run_und (h:TyOk P T d):(underlying T).run P w = .ok d.desc w:=run_underlying h.und w
theorem TyOk.run_size (h:TyOk P T d):(sizeOf T).run P w = .ok d.size w:=by
 obtain⟨i,hi,hs,_,_⟩:=h.info
 simp[sizeOf,typeInfo,hi,hs]
theorem TyOk.run_zero (h:TyOk P T d):(zeroValue T).run P w = .ok d.zero w:=by
 obtain⟨i,hi,_,_,hz⟩:=h.info
 simp[zeroValue,typeInfo,hi,hz]
def aggD:TypeDesc->Bool
 | .struct _ | .array _ _=>true
 |_=>false
theorem TyOk.run_agg (h:TyOk P T d):(isAgg T).run P w = .ok (aggD d.desc) w:=by
 simp only[isAgg]
 simp[h.run_und w]
 cases d.desc<;>rfl
end

section
variable {P:Program} {rd:Option Nat} {c:Ctx} {n:Sz} {σ:Fr} {M L:List Fact}
variable {d:Option Tmp} {ty:TypeId} {pos:String} {aft:Array Edge} {g:Option (Nat×Bool)}
theorem Y.move {x:Operand} {v:Value} (hx:ev σ x=some v):Y P c n σ M L ⟨d,.move x,ty,pos,aft,g⟩ v:=fun a w s _=>by
 simp[execOp,s.eval hx]
theorem Y.assign {x:Operand} {v:Value} (hx:ev σ x=some v):Y P c n σ M L ⟨d,.assign x,ty,pos,aft,g⟩ v:=fun a w s _=>by
 simp[execOp,s.eval hx]
theorem wrap64_in {x:Int} (h1 : -9223372036854775808<=x) (h2:x<=9223372036854775807):IntKind.i64.wrap x=x:=by
 unfold IntKind.wrap
 simp only[IntKind.bits,IntKind.signed]
 simp
 omega
theorem guard_int {op:BinOp} {t:TypeId} {x y:Operand} {k k':IntKind} {p q:Int} (w:World):(eqGuard op t x y (.int k p) (.int k' q)).run P w = .ok () w:=by
 unfold eqGuard
 cases op<;>simp
theorem Y.rem {t t':TypeId} {x y:Operand} {k:IntKind} {p q:Int} (hx:ev σ x=some (.int k p)) (hy:ev σ y=some (.int k q)) (h:q≠0):
  Y P c n σ M L ⟨d,.binOp .rem t x y t',ty,pos,aft,g⟩ (.int k (p.tmod q)):=fun a w s _=>by
 simp[execOp,s.eval hx,s.eval hy,binOp,Op.intDiv,guard_int,h]
theorem Y.lss {t t':TypeId} {x y:Operand} {k:IntKind} {p q:Int} (hx:ev σ x=some (.int k p)) (hy:ev σ y=some (.int k q)):
  Y P c n σ M L ⟨d,.binOp .lss t x y t',ty,pos,aft,g⟩ (.bool (decide (p<q))):=fun a w s _=>by
 simp[execOp,s.eval hx,s.eval hy,binOp,Op.intCmp,guard_int]
theorem Y.eql {t t':TypeId} {x y:Operand} {k:IntKind} {p q:Int} (hx:ev σ x=some (.int k p)) (hy:ev σ y=some (.int k q)):
  Y P c n σ M L ⟨d,.binOp .eql t x y t',ty,pos,aft,g⟩ (.bool (decide (p=q))):=fun a w s _=>by
 simp[execOp,s.eval hx,s.eval hy,binOp,Op.intCmp,guard_int]
 by_cases h:p=q<;>simp[h]
end
end Go.Sx
end
section
namespace Go.Sx
open Go.RowKit

def at' {α:Type} [Inhabited α] (xs:List α) (i:Int):α:=xs.getD i.toNat default

def elA (v:Value) (o:Nat):Addr:=match v with
 | .slice (some a) _ _=>a.add o
 |_=>⟨0,o,none⟩
theorem Addr.add_add (a:Addr) (o p:Nat):(a.add o).add p=a.add (o+p):=by
 unfold Addr.add
 by_cases h1:o=0<;>by_cases h2:p=0<;>simp[h1,h2,Nat.add_assoc]
theorem elA_add (v:Value) (o p:Nat):(elA v o).add p=elA v (o+p):=by
 unfold elA
 split
 ·exact Addr.add_add _ _ _
 ·unfold Addr.add;split<;>simp_all
theorem add_none (b off o:Nat):(⟨b,off,none⟩:Addr).add o=⟨b,off+o,none⟩:=by
 unfold Addr.add;split<;>simp_all


structure Rep (α:Type) where
 sz:Nat
 pos:0<sz
 R:World->(Nat->Prop)->List Value->α->Prop
 len:∀{w S cs x},R w S cs x->cs.length=sz
 mono:∀{w w':World} {S S':Nat->Prop} {cs x},R w S cs x->(∀k,S k->k<w.heap.size->S' k∧w'.heap[k]? = w.heap[k]?)->R w' S' cs x

section
variable {P:Program} {rd:Option Nat} {c:Ctx} {n:Sz} {σ:Fr} {M L:List Fact}
variable {d:Option Tmp} {ty:TypeId} {pos:String} {aft:Array Edge} {g:Option (Nat×Bool)}
variable {α:Type} {r:Rep α}
theorem run_len {T:TypeId} {dT:Ty} {E:TypeId} (w:World) (hT:TyOk P T dT) (hd:dT.desc = .slice E) (a:Option Addr) (k cap:Nat) (ty:TypeId):
  (Builtin.len_ #[T] ty #[.slice a k cap]).run P w = .ok (.int .i64 k) w:=by
 simp[Builtin.len_,hT.run_und w,hd,goInt]
theorem run_load1 {T:TypeId} {dT:Ty} {w:World} (hT:TyOk P T dT) (hd:aggD dT.desc=false) {A:Addr} {e:Value} (h:w.cell? A=some e):
  (Instr.loadAt T (.pointer (some A))).run P w = .ok e w:=by
 simp[Instr.loadAt,Instr.sureAddr,loadVar,hT.run_agg w,hd,load,Sem.run,h]
end

section
variable {P:Program} {rd:Option Nat} {c:Ctx} {n:Sz} {σ:Fr} {M L:List Fact} {Q:Exit->Act->World->Prop} {ops:Array Oper} {rest:List Oper}
variable {d:Option Tmp} {D:Nat} {ty:TypeId} {pos:String} {aft:Array Edge} {g:Option (Nat×Bool)}
theorem run_loadAll {T:TypeId} {dT:Ty} {w:World} (hT:TyOk P T dT) (hd:aggD dT.desc=true) {A:Addr} {cs:List Value} (hl:cs.length=dT.size) (h:∀j v,cs[j]? = some v->w.cell? (A.add j)=some v):
  (Instr.loadAt T (.pointer (some A))).run P w = .ok (.agg cs.toArray) w:=by
 have:=run_loadCells_list (P:=P) w A cs h
 simp[Instr.loadAt,Instr.sureAddr,loadVar,hT.run_agg w,hd,hT.run_size w,<-hl,this]
theorem run_alloc {T:TypeId} {dT:Ty} (w:World) (hT:TyOk P T dT):(Instr.alloc T true (.tuple #[])).run P w = .ok (.pointer (some ⟨w.heap.size,0,none⟩)) (w.alloc (.cells dT.zero.cells T)):=by
 simp[Instr.alloc,hT.run_zero w,newVar,newRow]
end
end Go.Sx
end
section
namespace Go.Sx
open Go.RowKit
section
variable {P:Program} {rd:Option Nat} {c:Ctx} {n:Sz} {σ:Fr} {M L:List Fact} {Q:Exit->Act->World->Prop} {ops:Array Oper} {rest:List Oper}
variable {d:Option Tmp} {D:Nat} {ty:TypeId} {pos:String} {aft:Array Edge} {g:Option (Nat×Bool)}
def one:Value->Bool
 | .agg _ | .tuple _=>false
 |_=>true
theorem one_oneCell {v:Value} (h:one v=true):v.oneCell'=true:=by cases v<;>first|rfl|cases h

def Meets (P:Program) (f:FuncId) (args:Array Value) (L:List Fact) {A:Type} (ret:A->Value) (MO LO:A->List Fact->List Fact):Prop:=
 ∀(w0:World) (S0:Nat->Prop),(∀h∈L,h.p w0 S0)->Calls P f args w0 fun e w'=>∃x:A,e = .returned (ret x)∧St ⟨w0,S0,fun _=>False⟩ (MO x []) (LO x []) w'
def joinF (m:Nat) (F' F:Nat->Nat->Prop) (i k:Nat):Prop:=(i<m∧F' i k)∨(m<=i∧F (i - m) k)
theorem Own.new {w:World} {M:List Fact} {F:Nat->Nat->Prop} {w0:World} {S0:Nat->Prop} (h:Own ⟨w0,S0,fun _=>False⟩ w M F) {i k:Nat} (hk:F i k):w0.heap.size<=k:=by
 rcases(h.rng i k hk).1 with h|h
 ·exact h
 ·exact h.elim
theorem St.call {w w':World} {M1 L1:List Fact} {F:Nat->Nat->Prop} (ho:Kept c.O c.w0 w) (hF:Own c w M F) (hL:∀f∈L,f.p w (Free c F))
  (t:St ⟨w,Free c F,fun _=>False⟩ M1 L1 w'):St c (M1++M) (L1++L) w':=by
 obtain⟨ho',F',hF',hL'⟩:=t
 have ho':=ho'.ext
 have hb:=ho'.block
 refine⟨ho.trans ho',joinF M1.length F' F,⟨?_,?_,?_⟩,fun f hf=> ?_⟩
 ·intro i m hm
  by_cases hi:i<M1.length
  ·rw[List.getElem?_append_left hi]at hm
   exact Fact.same (hF'.res i m hm) (fun k hk=> .inl ⟨hi,hk⟩) (fun _ _ _=>rfl)
  ·rw[List.getElem?_append_right (by omega)]at hm
   exact Fact.same (hF.res _ m hm) (fun k hk=> .inr ⟨by omega,hk⟩) (fun k _ hl=>hb k hl)
 ·rintro i k (⟨_,hk⟩|⟨_,hk⟩)
  ·exact⟨.inl (Nat.le_trans ho.size (hF'.new hk)),(hF'.rng i k hk).2⟩
  ·exact⟨(hF.rng _ k hk).1,Nat.lt_of_lt_of_le (hF.rng _ k hk).2 ho'.size⟩
 ·rintro i j k (⟨hi,h1⟩|⟨hi,h1⟩) (⟨hj,h2⟩|⟨hj,h2⟩)
  ·exact hF'.dis i j k h1 h2
  ·have:=hF'.new h1;have:=(hF.rng _ k h2).2;simp only at *;omega
  ·have:=hF'.new h2;have:=(hF.rng _ k h1).2;simp only at *;omega
  ·have:=hF.dis _ _ k h1 h2;omega
 ·rcases List.mem_append.1 hf with hf|hf
  ·refine Fact.same (hL' f hf) (fun k hk=> ?_) (fun _ _ _=>rfl)
   obtain⟨hall,hno⟩:=hk
   have hall':Free c F k∨w.heap.size<=k:=by
    rcases hall with h|h|h
    ·exact .inl h
    ·exact .inr h
    ·exact h.elim
   refine⟨?_,?_⟩
   ·rcases hall' with h|h
    ·exact h.1
    ·exact .inr (.inl (Nat.le_trans ho.size h))
   ·rintro i (⟨_,hi⟩|⟨_,hi⟩)
    ·exact hno i hi
    ·rcases hall' with h|h
     ·exact h.2 _ hi
     ·have:=(hF.rng _ k hi).2;omega
  ·refine f.mono (hL f hf) fun k hk hl=>⟨⟨hk.1,?_⟩,hb k hl⟩
   rintro i (⟨_,hi⟩|⟨_,hi⟩)
   ·have:=hF'.new hi;omega
   ·exact hk.2 _ hi
theorem evs {xs:List Operand} {vs:List Value} {a:Act} (s:Sub n σ a) (h:xs.map (ev σ)=vs.map some):xs.map a.eval=vs:=by
 induction xs generalizing vs with
 |nil=>cases vs<;>simp_all
 |cons x xs ih=>
  cases vs with
  |nil=>simp at h
  |cons v vs=>simp at h;simp[s.eval h.1,ih h.2]
def HasBody (P:Program) (f:FuncId):Prop:=∀args w,(callFunc f args).run P w = .ok (.enter f args) w

def Post {A:Type} (c:Ctx) (ret:A->Value) (MO LO:A->List Fact->List Fact) (e:Ending) (w:World):Prop:=∃x:A,e = .returned (ret x)∧St c (MO x []) (LO x []) w
def frame0:Nat->List Value->Fr
 |_,[]=>[]
 |k,v::vs=>(k,v)::frame0 (k+1) vs
theorem frame0_slot (vs:List Value):∀k t v,lk (frame0 k vs) t=some v->k<=t∧vs[t - k]? = some v:=by
 induction vs with
 |nil=>intro k t v h;simp[frame0,lk]at h
 | cons u vs ih =>
  intro k t v h
  simp only[frame0,lk]at h
  by_cases e:t=k
  ·subst e;simp at h;subst h;simp
  ·rw[beq_ne e]at h
   obtain⟨h1,h2⟩:=ih (k+1) t v h
   refine⟨by omega,?_⟩
   have:t - k=(t - (k+1))+1:=by omega
   rw[this,List.getElem?_cons_succ];exact h2
theorem Meets.of {A:Type} {ret:A->Value} {MO LO:A->List Fact->List Fact} {f:FuncId} {fn:Func} {code:Code} {vs:List Value} {m:Nat}
  (hf:P.funcs[f]? = some fn) (hb:fn.body=some code) (hn:fn.ntmps=m) (hm:Nat.ble vs.length m=true)
  (h:∀c:Ctx,J c ⟨m,[]⟩ (frame0 0 vs) [] L (code.wpr none P (bodyPost P fn (Post c ret MO LO)))):Meets P f vs.toArray L ret MO LO:=fun w0 S0 hL=>by
 have hle:vs.length<=m:=by simpa using hm
 refine calls_of_wpr hf hb (h ⟨w0,S0,fun _=>False⟩ _ _ ⟨rfl,by simp[hn,hle],?_⟩ ⟨Kept.refl _,fun _ _=>False,⟨?_,?_,?_⟩,?_⟩)
 ·intro t v hv
  obtain⟨_,h2⟩:=frame0_slot vs 0 t v hv
  rw[Nat.sub_zero]at h2
  have hlt:t<vs.length:=by
   rcases Nat.lt_or_ge t vs.length with h'|h'
   ·exact h'
   ·rw[List.getElem?_eq_none h']at h2;cases h2
  rw[Array.getElem?_append_left (by simpa using hlt)]
  simpa using h2
 ·intro i m h;simp at h
 ·intro i k h;exact h.elim
 ·intro i j k h;exact h.elim
 ·intro f hf
  exact Fact.same (hL f hf) (fun k hk=>⟨.inl hk,fun _ h=>h⟩) (fun _ _ _=>rfl)
end
end Go.Sx
end
section
namespace Go.Sx
open Go.Proofs
theorem infoOf {P:Program} {T:Nat} {i:TypeInfo} (h:P.types[T]? = some i):P.info? T=some i:=by
 unfold Tables.info?
 rw[if_pos (Array.getElem?_eq_some_iff.1 h).1];exact h
noncomputable def zOf (i:TypeInfo):Value:=i.zero.getD (.tuple #[])
noncomputable def tyOf (d:TypeDesc) (s b:Nat) (i:TypeInfo):Ty:=⟨d,s,b,zOf i⟩
noncomputable def y2:=tyOf Tryz.t2.desc 1 8 Tryz.t2
noncomputable def y3:=tyOf Tryz.t2.desc 1 8 Tryz.t3
noncomputable def y4:=tyOf Tryz.t4.desc 1 1 Tryz.t4
noncomputable def y5:=tyOf Tryz.t5.desc 1 1 Tryz.t5
noncomputable def y6:=tyOf Tryz.t5.desc 1 1 Tryz.t6
noncomputable def y7:=tyOf Tryz.t7.desc 4 24 Tryz.t7
noncomputable def y8:=tyOf Tryz.t7.desc 4 24 Tryz.t8
noncomputable def y9:=tyOf Tryz.t9.desc 1 16 Tryz.t9
noncomputable def y10:=tyOf Tryz.t9.desc 1 16 Tryz.t10
noncomputable def y11:=tyOf Tryz.t9.desc 1 16 Tryz.t11
noncomputable def y12:=tyOf Tryz.t12.desc 1 8 Tryz.t12
noncomputable def y13:=tyOf Tryz.t13.desc 2 24 Tryz.t13
noncomputable def y14:=tyOf Tryz.t13.desc 2 24 Tryz.t14
noncomputable def y15:=tyOf Tryz.t15.desc 1 8 Tryz.t15
noncomputable def y16:=tyOf Tryz.t16.desc 1 8 Tryz.t16
noncomputable def y17:=tyOf Tryz.t17.desc 1 8 Tryz.t17
noncomputable def y18:=tyOf Tryz.t18.desc 1 8 Tryz.t18
noncomputable def y19:=tyOf Tryz.t18.desc 1 8 Tryz.t19
noncomputable def y20:=tyOf Tryz.t20.desc 1 16 Tryz.t20
noncomputable def y21:=tyOf Tryz.t21.desc 1 4 Tryz.t21
noncomputable def y22:=tyOf Tryz.t22.desc 1 24 Tryz.t22
noncomputable def y23:=tyOf Tryz.t23.desc 1 24 Tryz.t23
noncomputable def y24:=tyOf Tryz.t24.desc 3 64 Tryz.t24
noncomputable def y25:=tyOf Tryz.t24.desc 3 64 Tryz.t25
noncomputable def y26:=tyOf Tryz.t26.desc 1 8 Tryz.t26
noncomputable def y27:=tyOf Tryz.t27.desc 1 8 Tryz.t27
noncomputable def y28:=tyOf Tryz.t2.desc 1 8 Tryz.t28
noncomputable def y30:=tyOf Tryz.t30.desc 1 8 Tryz.t30
noncomputable def y31:=tyOf Tryz.t31.desc 1 4 Tryz.t31
noncomputable def y32:=tyOf Tryz.t12.desc 1 8 Tryz.t32
noncomputable def y33:=tyOf Tryz.t33.desc 1 8 Tryz.t33
noncomputable def y34:=tyOf Tryz.t34.desc 1 8 Tryz.t34
noncomputable def y35:=tyOf Tryz.t35.desc 1 8 Tryz.t35
noncomputable def y36:=tyOf Tryz.t36.desc 1 8 Tryz.t36
noncomputable def y38:=tyOf Tryz.t38.desc 1 8 Tryz.t38
noncomputable def y39:=tyOf Tryz.t39.desc 1 8 Tryz.t39
noncomputable def y40:=tyOf Tryz.t40.desc 1 8 Tryz.t40
noncomputable def y41:=tyOf Tryz.t41.desc 1 8 Tryz.t41
noncomputable def y42:=tyOf Tryz.t42.desc 1 8 Tryz.t42
noncomputable def y43:=tyOf Tryz.t43.desc 6 56 Tryz.t43
noncomputable def y44:=tyOf Tryz.t43.desc 6 56 Tryz.t44
noncomputable def y45:=tyOf Tryz.t45.desc 1 24 Tryz.t45
noncomputable def y46:=tyOf Tryz.t46.desc 1 8 Tryz.t46
noncomputable def y47:=tyOf Tryz.t47.desc 1 24 Tryz.t47
noncomputable def y48:=tyOf Tryz.t48.desc 1 24 Tryz.t48
noncomputable def y49:=tyOf Tryz.t49.desc 3 64 Tryz.t49
noncomputable def y50:=tyOf Tryz.t49.desc 3 64 Tryz.t50
noncomputable def y51:=tyOf Tryz.t51.desc 1 8 Tryz.t51
noncomputable def y52:=tyOf Tryz.t52.desc 2 32 Tryz.t52
noncomputable def y53:=tyOf Tryz.t52.desc 2 32 Tryz.t53
noncomputable def y54:=tyOf Tryz.t54.desc 1 8 Tryz.t54
noncomputable def y55:=tyOf Tryz.t55.desc 1 8 Tryz.t55
noncomputable def y56:=tyOf Tryz.t56.desc 1 8 Tryz.t56
noncomputable def y57:=tyOf Tryz.t57.desc 1 8 Tryz.t57
noncomputable def y58:=tyOf Tryz.t58.desc 1 8 Tryz.t58
noncomputable def y59:=tyOf Tryz.t59.desc 1 8 Tryz.t59
noncomputable def y60:=tyOf Tryz.t60.desc 2 32 Tryz.t60
noncomputable def y61:=tyOf Tryz.t60.desc 2 32 Tryz.t61
noncomputable def y62:=tyOf Tryz.t62.desc 1 8 Tryz.t62
noncomputable def y63:=tyOf Tryz.t63.desc 1 8 Tryz.t63
noncomputable def y64:=tyOf Tryz.t64.desc 1 8 Tryz.t64
noncomputable def y65:=tyOf Tryz.t65.desc 1 8 Tryz.t65
noncomputable def y66:=tyOf Tryz.t66.desc 1 8 Tryz.t66
noncomputable def y67:=tyOf Tryz.t67.desc 1 8 Tryz.t67
noncomputable def y68:=tyOf Tryz.t68.desc 1 8 Tryz.t68
noncomputable def y69:=tyOf Tryz.t69.desc 1 24 Tryz.t69
noncomputable def y71:=tyOf Tryz.t71.desc 1 8 Tryz.t71
noncomputable def y72:=tyOf Tryz.t72.desc 1 8 Tryz.t72
noncomputable def y73:=tyOf Tryz.t73.desc 1 24 Tryz.t73
noncomputable def y74:=tyOf Tryz.t74.desc 3 64 Tryz.t74
noncomputable def y75:=tyOf Tryz.t74.desc 3 64 Tryz.t75
noncomputable def y76:=tyOf Tryz.t76.desc 7 152 Tryz.t76
noncomputable def y77:=tyOf Tryz.t76.desc 7 152 Tryz.t77
noncomputable def y79:=tyOf Tryz.t79.desc 1 8 Tryz.t79
noncomputable def y80:=tyOf Tryz.t80.desc 1 8 Tryz.t80
noncomputable def y81:=tyOf Tryz.t81.desc 1 8 Tryz.t81
noncomputable def y82:=tyOf Tryz.t82.desc 1 8 Tryz.t82
noncomputable def y83:=tyOf Tryz.t83.desc 1 8 Tryz.t83
noncomputable def y85:=tyOf Tryz.t85.desc 1 8 Tryz.t85
noncomputable def y86:=tyOf Tryz.t86.desc 1 24 Tryz.t86
noncomputable def y87:=tyOf Tryz.t87.desc 1 8 Tryz.t87
noncomputable def y88:=tyOf Tryz.t88.desc 1 8 Tryz.t88
noncomputable def y89:=tyOf Tryz.t89.desc 2 16 Tryz.t89
noncomputable def y90:=tyOf Tryz.t89.desc 2 16 Tryz.t90
noncomputable def y91:=tyOf Tryz.t91.desc 1 8 Tryz.t91
noncomputable def y92:=tyOf Tryz.t92.desc 1 8 Tryz.t92
noncomputable def y93:=tyOf Tryz.t93.desc 1 8 Tryz.t93
noncomputable def y94:=tyOf Tryz.t94.desc 1 8 Tryz.t94
noncomputable def y95:=tyOf Tryz.t95.desc 1 8 Tryz.t95
noncomputable def y96:=tyOf Tryz.t96.desc 1 8 Tryz.t96
noncomputable def y97:=tyOf Tryz.t97.desc 1 8 Tryz.t97
noncomputable def y99:=tyOf Tryz.t99.desc 1 8 Tryz.t99
noncomputable def y100:=tyOf Tryz.t100.desc 1 8 Tryz.t100
noncomputable def y101:=tyOf Tryz.t101.desc 4 32 Tryz.t101
noncomputable def y102:=tyOf Tryz.t101.desc 4 32 Tryz.t102
noncomputable def y104:=tyOf Tryz.t104.desc 1 8 Tryz.t104
noncomputable def y105:=tyOf Tryz.t105.desc 2 16 Tryz.t105
noncomputable def y106:=tyOf Tryz.t105.desc 2 16 Tryz.t106
noncomputable def y108:=tyOf Tryz.t108.desc 1 8 Tryz.t108
noncomputable def y109:=tyOf Tryz.t109.desc 1 8 Tryz.t109
noncomputable def y110:=tyOf Tryz.t110.desc 1 8 Tryz.t110
noncomputable def y111:=tyOf Tryz.t111.desc 1 8 Tryz.t111
noncomputable def y112:=tyOf Tryz.t112.desc 1 8 Tryz.t112
noncomputable def y113:=tyOf Tryz.t113.desc 1 8 Tryz.t113
noncomputable def y114:=tyOf Tryz.t114.desc 1 24 Tryz.t114
noncomputable def y115:=tyOf Tryz.t115.desc 1 8 Tryz.t115
noncomputable def y116:=tyOf Tryz.t116.desc 1 8 Tryz.t116
noncomputable def y118:=tyOf Tryz.t118.desc 1 8 Tryz.t118
noncomputable def y119:=tyOf Tryz.t119.desc 1 8 Tryz.t119
noncomputable def y120:=tyOf Tryz.t120.desc 1 8 Tryz.t120
noncomputable def y121:=tyOf Tryz.t121.desc 1 8 Tryz.t121
noncomputable def y122:=tyOf Tryz.t122.desc 1 8 Tryz.t122
noncomputable def y123:=tyOf Tryz.t123.desc 1 8 Tryz.t123
noncomputable def y124:=tyOf Tryz.t124.desc 1 8 Tryz.t124
noncomputable def y125:=tyOf Tryz.t125.desc 1 8 Tryz.t125
noncomputable def y126:=tyOf Tryz.t126.desc 1 8 Tryz.t126
noncomputable def y127:=tyOf Tryz.t127.desc 1 8 Tryz.t127
noncomputable def y128:=tyOf Tryz.t128.desc 1 8 Tryz.t128
noncomputable def y129:=tyOf Tryz.t129.desc 1 8 Tryz.t129
noncomputable def y130:=tyOf Tryz.t130.desc 1 8 Tryz.t130
noncomputable def y131:=tyOf Tryz.t131.desc 1 8 Tryz.t131
noncomputable def y132:=tyOf Tryz.t132.desc 1 8 Tryz.t132
noncomputable def y133:=tyOf Tryz.t133.desc 1 8 Tryz.t133
noncomputable def y134:=tyOf Tryz.t134.desc 1 8 Tryz.t134
noncomputable def y135:=tyOf Tryz.t135.desc 1 8 Tryz.t135
noncomputable def y136:=tyOf Tryz.t136.desc 2 48 Tryz.t136
noncomputable def y137:=tyOf Tryz.t136.desc 2 48 Tryz.t137
noncomputable def y139:=tyOf Tryz.t139.desc 1 8 Tryz.t139
noncomputable def y140:=tyOf Tryz.t140.desc 1 8 Tryz.t140
noncomputable def y141:=tyOf Tryz.t141.desc 1 8 Tryz.t141
noncomputable def y142:=tyOf Tryz.t142.desc 1 8 Tryz.t142
noncomputable def y143:=tyOf Tryz.t143.desc 1 8 Tryz.t143
noncomputable def y144:=tyOf Tryz.t144.desc 1 8 Tryz.t144
noncomputable def y145:=tyOf Tryz.t145.desc 1 8 Tryz.t145
noncomputable def y146:=tyOf Tryz.t146.desc 3 24 Tryz.t146
noncomputable def y147:=tyOf Tryz.t147.desc 1 8 Tryz.t147
noncomputable def y148:=tyOf Tryz.t148.desc 1 8 Tryz.t148
noncomputable def y149:=tyOf Tryz.t149.desc 1 8 Tryz.t149
noncomputable def y150:=tyOf Tryz.t150.desc 1 8 Tryz.t150
noncomputable def y151:=tyOf Tryz.t151.desc 1 8 Tryz.t151
noncomputable def y152:=tyOf Tryz.t152.desc 4 40 Tryz.t152
noncomputable def y153:=tyOf Tryz.t152.desc 4 40 Tryz.t153
noncomputable def y154:=tyOf Tryz.t154.desc 0 0 Tryz.t154
noncomputable def y155:=tyOf Tryz.t155.desc 0 0 Tryz.t155
noncomputable def y156:=tyOf Tryz.t155.desc 0 0 Tryz.t156
noncomputable def y157:=tyOf Tryz.t5.desc 1 1 Tryz.t157
noncomputable def y158:=tyOf Tryz.t5.desc 1 1 Tryz.t158
noncomputable def y159:=tyOf Tryz.t159.desc 1 8 Tryz.t159
noncomputable def y160:=tyOf Tryz.t160.desc 1 8 Tryz.t160
noncomputable def y161:=tyOf Tryz.t21.desc 1 4 Tryz.t161
noncomputable def y162:=tyOf Tryz.t21.desc 1 4 Tryz.t162
noncomputable def y163:=tyOf Tryz.t163.desc 11 48 Tryz.t163
noncomputable def y164:=tyOf Tryz.t163.desc 11 48 Tryz.t164
noncomputable def y165:=tyOf Tryz.t165.desc 1 8 Tryz.t165
noncomputable def tL {α:Type} (T i:Nat) (t:α):Option α:=bif Nat.beq T i then some t else none
noncomputable def tN {α:Type} (T i:Nat) (a b:Option α):Option α:=bif Nat.blt T i then a else b
noncomputable def tyTab (T:Nat):Option Ty:=(tN T 83 (tN T 42 (tN T 21 (tN T 11 (tN T 6 (tN T 4 (tN T 3 (tL T 2 y2) (tL T 3 y3)) (tN T 5 (tL T 4 y4) (tL T 5 y5))) (tN T 8 (tN T 7 (tL T 6 y6) (tL T 7 y7)) (tN T 9 (tL T 8 y8) (tN T 10 (tL T 9 y9) (tL T 10 y10))))) (tN T 16 (tN T 13 (tN T 12 (tL T 11 y11) (tL T 12 y12)) (tN T 14 (tL T 13 y13) (tN T 15 (tL T 14 y14) (tL T 15 y15)))) (tN T 18 (tN T 17 (tL T 16 y16) (tL T 17 y17)) (tN T 19 (tL T 18 y18) (tN T 20 (tL T 19 y19) (tL T 20 y20)))))) (tN T 31 (tN T 25 (tN T 23 (tN T 22 (tL T 21 y21) (tL T 22 y22)) (tN T 24 (tL T 23 y23) (tL T 24 y24))) (tN T 27 (tN T 26 (tL T 25 y25) (tL T 26 y26)) (tN T 28 (tL T 27 y27) (tN T 30 (tL T 28 y28) (tL T 30 y30))))) (tN T 36 (tN T 33 (tN T 32 (tL T 31 y31) (tL T 32 y32)) (tN T 34 (tL T 33 y33) (tN T 35 (tL T 34 y34) (tL T 35 y35)))) (tN T 39 (tN T 38 (tL T 36 y36) (tL T 38 y38)) (tN T 40 (tL T 39 y39) (tN T 41 (tL T 40 y40) (tL T 41 y41))))))) (tN T 61 (tN T 51 (tN T 46 (tN T 44 (tN T 43 (tL T 42 y42) (tL T 43 y43)) (tN T 45 (tL T 44 y44) (tL T 45 y45))) (tN T 48 (tN T 47 (tL T 46 y46) (tL T 47 y47)) (tN T 49 (tL T 48 y48) (tN T 50 (tL T 49 y49) (tL T 50 y50))))) (tN T 56 (tN T 53 (tN T 52 (tL T 51 y51) (tL T 52 y52)) (tN T 54 (tL T 53 y53) (tN T 55 (tL T 54 y54) (tL T 55 y55)))) (tN T 58 (tN T 57 (tL T 56 y56) (tL T 57 y57)) (tN T 59 (tL T 58 y58) (tN T 60 (tL T 59 y59) (tL T 60 y60)))))) (tN T 72 (tN T 66 (tN T 63 (tN T 62 (tL T 61 y61) (tL T 62 y62)) (tN T 64 (tL T 63 y63) (tN T 65 (tL T 64 y64) (tL T 65 y65)))) (tN T 68 (tN T 67 (tL T 66 y66) (tL T 67 y67)) (tN T 69 (tL T 68 y68) (tN T 71 (tL T 69 y69) (tL T 71 y71))))) (tN T 77 (tN T 74 (tN T 73 (tL T 72 y72) (tL T 73 y73)) (tN T 75 (tL T 74 y74) (tN T 76 (tL T 75 y75) (tL T 76 y76)))) (tN T 80 (tN T 79 (tL T 77 y77) (tL T 79 y79)) (tN T 81 (tL T 80 y80) (tN T 82 (tL T 81 y81) (tL T 82 y82)))))))) (tN T 126 (tN T 105 (tN T 93 (tN T 88 (tN T 86 (tN T 85 (tL T 83 y83) (tL T 85 y85)) (tN T 87 (tL T 86 y86) (tL T 87 y87))) (tN T 90 (tN T 89 (tL T 88 y88) (tL T 89 y89)) (tN T 91 (tL T 90 y90) (tN T 92 (tL T 91 y91) (tL T 92 y92))))) (tN T 99 (tN T 95 (tN T 94 (tL T 93 y93) (tL T 94 y94)) (tN T 96 (tL T 95 y95) (tN T 97 (tL T 96 y96) (tL T 97 y97)))) (tN T 101 (tN T 100 (tL T 99 y99) (tL T 100 y100)) (tN T 102 (tL T 101 y101) (tN T 104 (tL T 102 y102) (tL T 104 y104)))))) (tN T 115 (tN T 110 (tN T 108 (tN T 106 (tL T 105 y105) (tL T 106 y106)) (tN T 109 (tL T 108 y108) (tL T 109 y109))) (tN T 112 (tN T 111 (tL T 110 y110) (tL T 111 y111)) (tN T 113 (tL T 112 y112) (tN T 114 (tL T 113 y113) (tL T 114 y114))))) (tN T 121 (tN T 118 (tN T 116 (tL T 115 y115) (tL T 116 y116)) (tN T 119 (tL T 118 y118) (tN T 120 (tL T 119 y119) (tL T 120 y120)))) (tN T 123 (tN T 122 (tL T 121 y121) (tL T 122 y122)) (tN T 124 (tL T 123 y123) (tN T 125 (tL T 124 y124) (tL T 125 y125))))))) (tN T 146 (tN T 135 (tN T 130 (tN T 128 (tN T 127 (tL T 126 y126) (tL T 127 y127)) (tN T 129 (tL T 128 y128) (tL T 129 y129))) (tN T 132 (tN T 131 (tL T 130 y130) (tL T 131 y131)) (tN T 133 (tL T 132 y132) (tN T 134 (tL T 133 y133) (tL T 134 y134))))) (tN T 141 (tN T 137 (tN T 136 (tL T 135 y135) (tL T 136 y136)) (tN T 139 (tL T 137 y137) (tN T 140 (tL T 139 y139) (tL T 140 y140)))) (tN T 143 (tN T 142 (tL T 141 y141) (tL T 142 y142)) (tN T 144 (tL T 143 y143) (tN T 145 (tL T 144 y144) (tL T 145 y145)))))) (tN T 156 (tN T 151 (tN T 148 (tN T 147 (tL T 146 y146) (tL T 147 y147)) (tN T 149 (tL T 148 y148) (tN T 150 (tL T 149 y149) (tL T 150 y150)))) (tN T 153 (tN T 152 (tL T 151 y151) (tL T 152 y152)) (tN T 154 (tL T 153 y153) (tN T 155 (tL T 154 y154) (tL T 155 y155))))) (tN T 161 (tN T 158 (tN T 157 (tL T 156 y156) (tL T 157 y157)) (tN T 159 (tL T 158 y158) (tN T 160 (tL T 159 y159) (tL T 160 y160)))) (tN T 163 (tN T 162 (tL T 161 y161) (tL T 162 y162)) (tN T 164 (tL T 163 y163) (tN T 165 (tL T 164 y164) (tL T 165 y165)))))))))
theorem tyL {T i s b:Nat} {u:TypeDesc} {I:TypeInfo} {d:Ty} (hu:Tryz.prog.underlying i=some u) (hi:Tryz.prog.types[i]? = some I) (hs:I.size=s:=by rfl) (hb':I.bytes=b:=by rfl) (hz:I.zero=some (zOf I):=by rfl):tL T i (tyOf u s b I)=some d->TyOk Tryz.prog T d:=by
 intro e
 unfold tL at e
 cases hb:Nat.beq T i with
 |true=>rw[hb]at e;cases e;rw[Nat.eq_of_beq_eq_true hb];exact⟨hu,I,infoOf hi,hs,hb',hz⟩
 |false=>rw[hb]at e;cases e
theorem tyN {T i:Nat} {x y:Option Ty} {d:Ty} (hx:x=some d->TyOk Tryz.prog T d) (hy:y=some d->TyOk Tryz.prog T d):tN T i x y=some d->TyOk Tryz.prog T d:=by
 unfold tN
 cases Nat.blt T i
 ·exact hy
 ·exact hx
theorem tyTab_ok {T:Nat} {d:Ty}:tyTab T=some d->TyOk Tryz.prog T d:=
 (tyN (tyN (tyN (tyN (tyN (tyN (tyN (tyL Tryz.underlying2 Tryz.type2) (tyL Tryz.underlying3 Tryz.type3)) (tyN (tyL Tryz.underlying4 Tryz.type4) (tyL Tryz.underlying5 Tryz.type5))) (tyN (tyN (tyL Tryz.underlying6 Tryz.type6) (tyL Tryz.underlying7 Tryz.type7)) (tyN (tyL Tryz.underlying8 Tryz.type8) (tyN (tyL Tryz.underlying9 Tryz.type9) (tyL Tryz.underlying10 Tryz.type10))))) (tyN (tyN (tyN (tyL Tryz.underlying11 Tryz.type11) (tyL Tryz.underlying12 Tryz.type12)) (tyN (tyL Tryz.underlying13 Tryz.type13) (tyN (tyL Tryz.underlying14 Tryz.type14) (tyL Tryz.underlying15 Tryz.type15)))) (tyN (tyN (tyL Tryz.underlying16 Tryz.type16) (tyL Tryz.underlying17 Tryz.type17)) (tyN (tyL Tryz.underlying18 Tryz.type18) (tyN (tyL Tryz.underlying19 Tryz.type19) (tyL Tryz.underlying20 Tryz.type20)))))) (tyN (tyN (tyN (tyN (tyL Tryz.underlying21 Tryz.type21) (tyL Tryz.underlying22 Tryz.type22)) (tyN (tyL Tryz.underlying23 Tryz.type23) (tyL Tryz.underlying24 Tryz.type24))) (tyN (tyN (tyL Tryz.underlying25 Tryz.type25) (tyL Tryz.underlying26 Tryz.type26)) (tyN (tyL Tryz.underlying27 Tryz.type27) (tyN (tyL Tryz.underlying28 Tryz.type28) (tyL Tryz.underlying30 Tryz.type30))))) (tyN (tyN (tyN (tyL Tryz.underlying31 Tryz.type31) (tyL Tryz.underlying32 Tryz.type32)) (tyN (tyL Tryz.underlying33 Tryz.type33) (tyN (tyL Tryz.underlying34 Tryz.type34) (tyL Tryz.underlying35 Tryz.type35)))) (tyN (tyN (tyL Tryz.underlying36 Tryz.type36) (tyL Tryz.underlying38 Tryz.type38)) (tyN (tyL Tryz.underlying39 Tryz.type39) (tyN (tyL Tryz.underlying40 Tryz.type40) (tyL Tryz.underlying41 Tryz.type41))))))) (tyN (tyN (tyN (tyN (tyN (tyL Tryz.underlying42 Tryz.type42) (tyL Tryz.underlying43 Tryz.type43)) (tyN (tyL Tryz.underlying44 Tryz.type44) (tyL Tryz.underlying45 Tryz.type45))) (tyN (tyN (tyL Tryz.underlying46 Tryz.type46) (tyL Tryz.underlying47 Tryz.type47)) (tyN (tyL Tryz.underlying48 Tryz.type48) (tyN (tyL Tryz.underlying49 Tryz.type49) (tyL Tryz.underlying50 Tryz.type50))))) (tyN (tyN (tyN (tyL Tryz.underlying51 Tryz.type51) (tyL Tryz.underlying52 Tryz.type52)) (tyN (tyL Tryz.underlying53 Tryz.type53) (tyN (tyL Tryz.underlying54 Tryz.type54) (tyL Tryz.underlying55 Tryz.type55)))) (tyN (tyN (tyL Tryz.underlying56 Tryz.type56) (tyL Tryz.underlying57 Tryz.type57)) (tyN (tyL Tryz.underlying58 Tryz.type58) (tyN (tyL Tryz.underlying59 Tryz.type59) (tyL Tryz.underlying60 Tryz.type60)))))) (tyN (tyN (tyN (tyN (tyL Tryz.underlying61 Tryz.type61) (tyL Tryz.underlying62 Tryz.type62)) (tyN (tyL Tryz.underlying63 Tryz.type63) (tyN (tyL Tryz.underlying64 Tryz.type64) (tyL Tryz.underlying65 Tryz.type65)))) (tyN (tyN (tyL Tryz.underlying66 Tryz.type66) (tyL Tryz.underlying67 Tryz.type67)) (tyN (tyL Tryz.underlying68 Tryz.type68) (tyN (tyL Tryz.underlying69 Tryz.type69) (tyL Tryz.underlying71 Tryz.type71))))) (tyN (tyN (tyN (tyL Tryz.underlying72 Tryz.type72) (tyL Tryz.underlying73 Tryz.type73)) (tyN (tyL Tryz.underlying74 Tryz.type74) (tyN (tyL Tryz.underlying75 Tryz.type75) (tyL Tryz.underlying76 Tryz.type76)))) (tyN (tyN (tyL Tryz.underlying77 Tryz.type77) (tyL Tryz.underlying79 Tryz.type79)) (tyN (tyL Tryz.underlying80 Tryz.type80) (tyN (tyL Tryz.underlying81 Tryz.type81) (tyL Tryz.underlying82 Tryz.type82)))))))) (tyN (tyN (tyN (tyN (tyN (tyN (tyL Tryz.underlying83 Tryz.type83) (tyL Tryz.underlying85 Tryz.type85)) (tyN (tyL Tryz.underlying86 Tryz.type86) (tyL Tryz.underlying87 Tryz.type87))) (tyN (tyN (tyL Tryz.underlying88 Tryz.type88) (tyL Tryz.underlying89 Tryz.type89)) (tyN (tyL Tryz.underlying90 Tryz.type90) (tyN (tyL Tryz.underlying91 Tryz.type91) (tyL Tryz.underlying92 Tryz.type92))))) (tyN (tyN (tyN (tyL Tryz.underlying93 Tryz.type93) (tyL Tryz.underlying94 Tryz.type94)) (tyN (tyL Tryz.underlying95 Tryz.type95) (tyN (tyL Tryz.underlying96 Tryz.type96) (tyL Tryz.underlying97 Tryz.type97)))) (tyN (tyN (tyL Tryz.underlying99 Tryz.type99) (tyL Tryz.underlying100 Tryz.type100)) (tyN (tyL Tryz.underlying101 Tryz.type101) (tyN (tyL Tryz.underlying102 Tryz.type102) (tyL Tryz.underlying104 Tryz.type104)))))) (tyN (tyN (tyN (tyN (tyL Tryz.underlying105 Tryz.type105) (tyL Tryz.underlying106 Tryz.type106)) (tyN (tyL Tryz.underlying108 Tryz.type108) (tyL Tryz.underlying109 Tryz.type109))) (tyN (tyN (tyL Tryz.underlying110 Tryz.type110) (tyL Tryz.underlying111 Tryz.type111)) (tyN (tyL Tryz.underlying112 Tryz.type112) (tyN (tyL Tryz.underlying113 Tryz.type113) (tyL Tryz.underlying114 Tryz.type114))))) (tyN (tyN (tyN (tyL Tryz.underlying115 Tryz.type115) (tyL Tryz.underlying116 Tryz.type116)) (tyN (tyL Tryz.underlying118 Tryz.type118) (tyN (tyL Tryz.underlying119 Tryz.type119) (tyL Tryz.underlying120 Tryz.type120)))) (tyN (tyN (tyL Tryz.underlying121 Tryz.type121) (tyL Tryz.underlying122 Tryz.type122)) (tyN (tyL Tryz.underlying123 Tryz.type123) (tyN (tyL Tryz.underlying124 Tryz.type124) (tyL Tryz.underlying125 Tryz.type125))))))) (tyN (tyN (tyN (tyN (tyN (tyL Tryz.underlying126 Tryz.type126) (tyL Tryz.underlying127 Tryz.type127)) (tyN (tyL Tryz.underlying128 Tryz.type128) (tyL Tryz.underlying129 Tryz.type129))) (tyN (tyN (tyL Tryz.underlying130 Tryz.type130) (tyL Tryz.underlying131 Tryz.type131)) (tyN (tyL Tryz.underlying132 Tryz.type132) (tyN (tyL Tryz.underlying133 Tryz.type133) (tyL Tryz.underlying134 Tryz.type134))))) (tyN (tyN (tyN (tyL Tryz.underlying135 Tryz.type135) (tyL Tryz.underlying136 Tryz.type136)) (tyN (tyL Tryz.underlying137 Tryz.type137) (tyN (tyL Tryz.underlying139 Tryz.type139) (tyL Tryz.underlying140 Tryz.type140)))) (tyN (tyN (tyL Tryz.underlying141 Tryz.type141) (tyL Tryz.underlying142 Tryz.type142)) (tyN (tyL Tryz.underlying143 Tryz.type143) (tyN (tyL Tryz.underlying144 Tryz.type144) (tyL Tryz.underlying145 Tryz.type145)))))) (tyN (tyN (tyN (tyN (tyL Tryz.underlying146 Tryz.type146) (tyL Tryz.underlying147 Tryz.type147)) (tyN (tyL Tryz.underlying148 Tryz.type148) (tyN (tyL Tryz.underlying149 Tryz.type149) (tyL Tryz.underlying150 Tryz.type150)))) (tyN (tyN (tyL Tryz.underlying151 Tryz.type151) (tyL Tryz.underlying152 Tryz.type152)) (tyN (tyL Tryz.underlying153 Tryz.type153) (tyN (tyL Tryz.underlying154 Tryz.type154) (tyL Tryz.underlying155 Tryz.type155))))) (tyN (tyN (tyN (tyL Tryz.underlying156 Tryz.type156) (tyL Tryz.underlying157 Tryz.type157)) (tyN (tyL Tryz.underlying158 Tryz.type158) (tyN (tyL Tryz.underlying159 Tryz.type159) (tyL Tryz.underlying160 Tryz.type160)))) (tyN (tyN (tyL Tryz.underlying161 Tryz.type161) (tyL Tryz.underlying162 Tryz.type162)) (tyN (tyL Tryz.underlying163 Tryz.type163) (tyN (tyL Tryz.underlying164 Tryz.type164) (tyL Tryz.underlying165 Tryz.type165)))))))))

noncomputable instance:Tab Tryz.prog:=⟨tyTab,tyTab_ok⟩
end Go.Sx
end
section
namespace Go.Sx
open Go.RowKit
section
variable {P:Program} {ops:Array Oper} {Q:Exit->Act->World->Prop}
def NoQ:Exit->Act->World->Prop:=fun _ _ _=>False
theorem letsNoQ:¬LetsOut NoQ:=fun⟨_,_,h⟩=>h
theorem nwp_Q {o:Oper} {a:Act} {w:World} {K:Act->World->Prop} (h:o.wp P a w K NoQ):o.wp P a w K Q:=by
 unfold Oper.wp at *
 generalize (execOp a.eval o).run P w=r at *
 cases r with
 | ok n w' =>
  cases n<;>simp only[Oper.upon]at h ⊢ <;> first
   |exact h
   |exact Calls.mono h (fun e w'' he=>by cases e<;>first|exact he|exact absurd he letsNoQ|exact he.elim)
 |halt x w'=>cases x<;>simp only[Oper.upon]at h ⊢ <;> first|exact h|exact h.elim
theorem nwp_some {o:Oper} {a:Act} {w:World} {K:Act->World->Prop} (h:o.wp P a w K NoQ):∃a' w',K a' w':=by
 unfold Oper.wp at *
 generalize (execOp a.eval o).run P w=r at *
 cases r with
 | ok n w' =>
  cases n<;>simp only[Oper.upon]at h
  case value v=>exact⟨_,_,h⟩
  case skip=>exact⟨_,_,h⟩
  case defer d=>exact⟨_,_,h⟩
  case enter f args=>
   obtain⟨e,w'',fr,he,_⟩:=h []
   cases e with
   |returned v=>exact⟨_,_,he⟩
   |panicked c=>exact he.elim
   |outgrown=>exact absurd he letsNoQ
  case row row args=>
   obtain⟨v,w'',he,_⟩:=h default []
   exact⟨_,_,he⟩
 |halt x w'=>cases x<;>simp only[Oper.upon]at h<;>exact h.elim
theorem nwp_mono {o:Oper} {a:Act} {w:World} {K K':Act->World->Prop} (hk:∀a w,K a w->K' a w) (h:o.wp P a w K NoQ):o.wp P a w K' NoQ:=Oper.wp_mono hk h
variable {A:Nat->Nat->Bool} {loud:Nat->Bool} {k0:Nat}
end

def edges (o:Oper):List Nat:=(o.after.toList.filter (Region.binds .any)).map (·.on)
def masks (l:List Oper):List Nat:=l.foldl (fun acc o=>acc++[(edges o).foldl (fun s e=>s ||| 2^e ||| acc.getD e 0) 0]) []
def before (m:List Nat) (i j:Nat):Bool:=(m.getD i 0).testBit j
def loudOp:Op->Bool
 | .move _ | .assign _ | .pick .. | .build .. | .load .. | .binOp .. | .unOp .. | .convert .. | .fieldAddr .. | .field .. | .indexAddr .. | .index .. | .lookup .. | .extract .. | .slice .. | .makeFunc .. | .nilCheck .. => false
 | .call ⟨.builtin .len,_,_⟩ | .call ⟨.builtin .max,_,_⟩ | .call ⟨.builtin .min,_,_⟩ | .call ⟨.builtin .cap,_,_⟩=>false
 |_=>true
def isSelect:Op->Bool
 | .select .. => true
 |_=>false
def chk (l:List Oper) (m:List Nat) (k0:Nat):Bool:=
  (List.range l.length).all fun i=>match l[i]? with
    |none=>false
    | some o =>
      (edges o).all (fun e=>Nat.blt e i&&before m i e&&(List.range i).all (fun k=> !before m e k||before m i k)) &&
      (List.range l.length).all (fun k=> !before m i k||(Nat.blt k i&&(edges o).any (fun e=>Nat.beq e k||before m e k))) &&
      !isSelect o.op &&
      (if Nat.ble k0 i then(List.range i).all (fun x=>before m i x)
       else(List.range i).all (fun x=>before m i x||(match l[x]? with|none=>false|some ox=>ox.apart l.toArray o&&(!loudOp ox.op || !loudOp o.op))))
end Go.Sx
end
section
namespace Go.Sx
open Go.RowKit
theorem getElem?_lt {α:Type} {l:List α} {i:Nat} {x:α} (h:l[i]? = some x):i<l.length:=by
 rcases Nat.lt_or_ge i l.length with h'|h'
 ·exact h'
 ·rw[List.getElem?_eq_none h']at h;cases h
section
variable {P:Program} {Q:Exit->Act->World->Prop} {l:List Oper} {m:List Nat} {k0:Nat}

variable {c:Ctx} {n:Sz} {σ:Fr} {M L Mx Lx:List Fact} {H Bs:List (Nat×List Fact×List Fact)}

def Loud (P:Program) (c:Ctx) (n:Sz) (σ:Fr) (M L:List Fact) (o:Oper) {A:Type} (val:A->Value) (M' L':A->List Fact):Prop:=
 ∀a w,Sub n σ a->St c M L w->o.wp P a w (fun a' w'=>∃x:A,a'=a.put o.dst (val x)∧St c (M' x) (L' x) w') NoQ
theorem J.loud {A:Type} {val:A->Value} {M' L':A->List Fact} {ops:Array Oper} {rest:List Oper} {d:Nat} {op:Op} {ty:TypeId} {pos:String} {aft:Array Edge}
  (ho:Loud P c n σ M L ⟨some d,op,ty,pos,aft,none⟩ val M' L') (hd:Nat.blt d n.sz=true) (h:∀x,J c n ((d,val x)::σ) (M' x) (L' x) (wpList P ops Q rest)):
  J c n σ M L (wpList P ops Q (⟨some d,op,ty,pos,aft,none⟩::rest)):=fun a w s t=>
 wpList_take rfl (nwp_Q (nwp_mono (fun a' w' ⟨x,he,ht⟩=>by subst he;exact h x _ w' (s.put d _ hd) ht) (ho a w s t)))
end
end Go.Sx
end
section
namespace Go.Sx
open Go.RowKit

structure Enc (α:Type) where
 sz:Nat
 pos:0<sz
 enc:α->List Value
 len:∀x,(enc x).length=sz

section
variable {α:Type} {e:Enc α} {w:World} {F:Nat->Prop} {v:Value} {xs:List α}
end
section
variable {P:Program} {rd:Option Nat} {c:Ctx} {n:Sz} {σ:Fr} {M L:List Fact} {Q:Exit->Act->World->Prop} {ops:Array Oper} {rest:List Oper}
variable {d:Option Tmp} {D:Nat} {ty:TypeId} {pos:String} {aft:Array Edge} {g:Option (Nat×Bool)}
variable {α:Type} {e:Enc α}


theorem run_room {T ty E:TypeId} {dT dE:Ty} {w:World} (hT:TyOk P T dT) (hd:dT.desc = .slice E) (hE:TyOk P E dE) {b off k cap:Nat} {cur:Array Value} {T':TypeId} (hb:w.heap[b]? = some (.cells cur T' (0,0))) {m:Nat} {x:Value} {ns:List Value} (hs:Src P dE.size T x m ns w)
  (hroom:k+m<=cap) (hc:off+cap*dE.size<=cur.size):
  (Builtin.append_ #[T,T] ty #[.slice (some ⟨b,off,none⟩) k cap,x]).run P w = .ok (.slice (some ⟨b,off,none⟩) (k+m) cap) (w.setRow b (cur.toList.take (off+k*dE.size)++ns++cur.toList.drop (off+k*dE.size+ns.length)).toArray):=by
 have hfit:off+k*dE.size+0+ns.length<=cur.size:=by
  rw[hs.newsLen]
  have:=Nat.mul_le_mul_right dE.size hroom
  rw[Nat.add_mul]at this
  omega
 have hst:=run_storeCells_at P b (off+k*dE.size) T' ns 0 cur w hb hfit hs.one
 simp only[Nat.add_zero]at hst
 have hu:=hT.run_und w
 rw[hd]at hu
 simp[Builtin.append_,hu,hE.run_size w,hs.len,hroom,hs.cells,add_none,hst]
theorem run_grow {T ty E:TypeId} {dT dE:Ty} {w:World} (hT:TyOk P T dT) (hd:dT.desc = .slice E) (hE:TyOk P E dE) {base:Option Addr} {k cap:Nat} {olds:List Value}
  (hold:(Builtin.firstCells dE.size k (.slice base k cap)).run P w.drew = .ok olds.toArray w.drew) {m:Nat} {x:Value} {ns:List Value} (hs:Src P dE.size T x m ns w) (hg:cap<k+m) (hb:(k+m)*dE.bytes<=140737488355328) (h63:k+m<=140737488355328):
  (Builtin.append_ #[T,T] ty #[.slice base k cap,x]).run P w = .ok (.slice (some ⟨w.heap.size,0,none⟩) (k+m) (grownCap w (k+m) cap E))
   (w.drew.alloc (.cells ((olds++ns).toArray++Builtin.zeroCells dE.zero.cells (grownCap w (k+m) cap E - (k+m))) E)):=by
 obtain⟨iE,hiE,hsz,hby,hz⟩:=hE.info
 have hfit:=growslice_fits (need:=k+m) (old:=cap) (bytes:=dE.bytes) hg hb
 exact run_append_grow_src w T T ty E iE dE.zero (by rw[hT.und,hd]) hiE hz base k cap olds (by rw[hsz];exact hold) x m ns (by rw[hsz];exact hs) hg (by omega) (by rw[hby];exact hfit)
end
end Go.Sx
end
section
namespace Go.Sx
open Go.RowKit
theorem mixedOrders:Go.Proofs.Tryz.prog.follows .mixedOrders=true:=by kernel_rfl
section
variable {P:Program} {rd:Option Nat} {c:Ctx} {n:Sz} {σ:Fr} {M L:List Fact} {Q:Exit->Act->World->Prop} {ops:Array Oper} {rest:List Oper}
end
section
variable {P:Program} {rd:Option Nat} {c:Ctx} {n:Sz} {σ:Fr} {M L:List Fact} {Q:Exit->Act->World->Prop} {l:List Oper} {m:List Nat} {k0:Nat} {H Bs:List (Nat×List Fact×List Fact)} {rest:List Nat}
end
end Go.Sx
end
section
namespace Go.Sx
open Go.RowKit
def left (l:List Oper) (listed:Array Bool):List Nat:=(List.range l.length).filter fun i=> !listed.getD i true
section
variable {P:Program} {Q:Exit->Act->World->Prop} {l:List Oper} {m:List Nat} {k0:Nat}

end
end Go.Sx
end
section
set_option maxRecDepth 100000
namespace Go.Sx
open Go.RowKit Go.ChangeShapes Go.WideShapes Go.ChangeAt Go.Proofs Go.Joins
theorem own0:ownKnob Tryz.prog.godebug=none:=by kernel_rfl
theorem laid0:laidOutB Tryz.prog=true:=by kernel_rfl
section
variable {H:Type} {enc:TypeId×Value->H} {P:Program}
theorem trodAll_below (hl:laidOutB P=true) {W W':World} (hb:Ext W W'):∀(ts:List TypeId) (vs:List Value) (ds:List (DataW H)) (p:List MemPlace),(ts.all fun t=>P.readableRec t&&decide (t<P.types.size))=true->
  DataW.TrodAll enc P W 0 (fun _=>true) true ts vs ds p->(∀x∈p,x.block<W.heap.size)->DataW.TrodAll enc P W' 0 (fun b=>decide (b<W.heap.size)) true ts vs ds p
 | [],[],[],_,_,h,_=>h
 |t::ts,v::vs,d::ds,ps,hr,h,hlt=>by
  obtain⟨p,q,h1,h2,rfl⟩:=h
  simp only[List.all_cons,Bool.and_eq_true,decide_eq_true_eq]at hr
  exact⟨p,q,Below.trod hl hr.1.1 hr.1.2 h1 hb (fun x hx=>hlt x (List.mem_append_left _ hx)),trodAll_below hl hb ts vs ds q (by simpa using hr.2) h2 (fun x hx=>hlt x (List.mem_append_right _ hx)),rfl⟩
 | [],[],_::_,_,_,h,_=>h.elim
 | [],_::_,_,_,_,h,_=>h.elim
 |_::_,[],_,_,_,h,_=>h.elim
 |_::_,_::_,[],_,_,h,_=>h.elim
theorem law_lifted {os:Os} (started:os.Started) {f:FuncId} {fn:Func} {s:ChangeSpec} {r:Bool} (hfn:Tryz.prog.funcs[f]? = some fn) (noInit:Tryz.prog.inits.idxOf? f=none)
  (hread:(fn.params.toList.all fun t=>Tryz.prog.readableRec t&&decide (t<Tryz.prog.types.size))=true) (hres:fn.resultTypes = #[4]) (hvars:s.vars=[])
  (hspec:∀ds:List (DataW H),ds.length=fn.params.toList.length->s.fn H ds={results:=[.lit (.bool true)],args:=ds})
  (witness:∃(w:World) (tape:Tape) (i:Input),w.os=os∧(w.forCall tape i).Shaped Tryz.prog∧i.vars=[]∧Input.okWide Tryz.prog (w.forCall tape i) .any w.heap.size f i∧
   s.pre6 enc Tryz.prog fn [] false (w.forCall tape i).memory i.args∧({}:Assume).holds Tryz.prog (lone (Frame.enter Tryz.prog f i.args .normal) [] (w.forCall tape i)))
  (main:∀(W:World) (base:Nat) (args:Array Value) (ds:List (DataW H)) (p:List MemPlace),(∀(j:Nat) t v,fn.params[j]? = some t->args[j]? = some v->Value.okWide Tryz.prog W .any base t v)->
   DataW.TrodAll enc Tryz.prog W 0 (fun _=>true) true fn.params.toList args.toList ds p->Calls Tryz.prog f args W fun e W'=>e = .returned (.bool true)∧Ext W W'):
  ReturnsInHanded {} Go.Proofs.YtdbcpliafeoghaaGreat.Tryz.pinned.checked os f .any (s.pre6 enc Tryz.prog fn [] false) (s.post enc Tryz.prog fn false r false false):=by
 refine returnsInHanded_of_change (C:=Go.Proofs.YtdbcpliafeoghaaGreat.Tryz.pinned.checked) own0 started noInit hfn witness ?_
 intro W base args ds gs before hval hW _ _
 have hlt:=hW.lt
 have hW':=hW
 obtain⟨p,q,hA,hV,rfl,_,_⟩:=hW
 rw[hvars]at hV
 obtain⟨rfl,rfl⟩:=trodVars_none hV
 refine(main W base args ds p hval hA).mono ?_
 rintro e W' ⟨rfl,hb⟩
 refine⟨_,rfl,?_⟩
 have hlen:ds.length=fn.params.toList.length:=by
  have:∀(ts:List TypeId) (vs:List Value) (ds:List (DataW H)) (p:List MemPlace),DataW.TrodAll enc Tryz.prog W 0 (fun _=>true) true ts vs ds p->ds.length=ts.length:=by
   intro ts
   induction ts with
   |nil=>intro vs ds p h;cases vs<;>cases ds<;>first|rfl|exact h.elim
   | cons t ts ih =>
    intro vs ds p h
    cases vs with
    |nil=>exact h.elim
    |cons v vs=>
     cases ds with
     |nil=>exact h.elim
     |cons d ds=>obtain⟨_,_,_,h2,_⟩:=h;simp[ih vs ds _ h2]
  exact this _ _ _ _ hA
 have hs:s.fn H (ds++[])={results:=[.lit (.bool true)],args:=ds}:=by rw[List.append_nil];exact hspec ds hlen
 refine⟨ds,[],p++[],[],p,[],hW',?_,?_,?_,hb.frame _,fun h=>by cases h⟩
 ·rw[hs,hres]
  exact trodAll_mk1 (shut_bool Tryz.underlying4 true)
 ·rw[hs]
  exact trodAll_below laid0 hb _ _ _ _ hread hA (fun x hx=>hlt x (List.mem_append_left _ hx))
 ·rw[hs,hvars];exact rfl
theorem calls_of_meets {f:FuncId} {args:Array Value} {L:List Fact} {W:World} (h:Meets Tryz.prog f args L (fun _:Unit=> .bool true) (fun _ l=>l) (fun _ l=>l)) (hL:∀g∈L,g.p W (fun _=>True)):
  Calls Tryz.prog f args W fun e W'=>e = .returned (.bool true)∧Ext W W':=
 (h W (fun _=>True) hL).mono fun _ _ ⟨_,he,ht⟩=>⟨he,ht.old.ext⟩

variable {w:World} {base:Nat} {spare:Nat->Bool} {held:Bool}
end
end Go.Sx
end
section
namespace Go.Sx
open Go.RowKit

def ck {β:Type} (p:Prop) [Decidable p] (x:Option β):Option β:=if p then x else none
theorem ck_some {β:Type} {p:Prop} [Decidable p] {x:Option β} {r:β} (h:ck p x=some r):p∧x=some r:=by
 unfold ck at h
 by_cases hp:p
 ·rw[if_pos hp]at h;exact⟨hp,h⟩
 ·rw[if_neg hp]at h;cases h
theorem ifP {β:Type} {p:Prop} [Decidable p] {x y:Option β} {r:β} (hp:p) (h:(if p then x else y)=some r):x=some r:=by rwa[if_pos hp]at h
theorem ifN {β:Type} {p:Prop} [Decidable p] {x y:Option β} {r:β} (hp:¬p) (h:(if p then x else y)=some r):y=some r:=by rwa[if_neg hp]at h
theorem bnd {β γ:Type} {x:Option β} {f:β->Option γ} {r:γ} (h:x.bind f=some r):∃y,x=some y∧f y=some r:=Option.bind_eq_some_iff.1 h

def Lent (M L:List Fact) (g:Fact):Prop:=∀(w:World) (S:Nat->Prop) (T:Nat->Nat->Prop) (U:Nat->Prop),(∀f∈L,f.p w S)->(∀(i:Nat) (m:Fact),M[i]? = some m->m.p w (T i))->(∀k,S k->U k)->(∀i k,T i k->U k)->g.p w U
section
variable {M L:List Fact} {α β:Type} {e:Enc α} {r:Rep α} {v:Value}
theorem Fact.wide {f:Fact} {w:World} {S U:Nat->Prop} (h:f.p w S) (hS:∀k,S k->U k):f.p w U:=f.mono h fun k hk _=>⟨hS k hk,rfl⟩
theorem Lent.fact {g:Fact} (j:Nat) (h:L[j]? = some g):Lent M L g:=fun _ _ _ _ hL _ hS _=>Fact.wide (hL g (List.mem_of_getElem? h)) hS
end

section
variable {P:Program} {rd:Option Nat} {c:Ctx} {n:Sz} {σ:Fr} {M L:List Fact} {Q:Exit->Act->World->Prop} {ops:Array Oper} {rest:List Oper}
variable {d:Option Tmp} {D:Nat} {ty:TypeId} {pos:String} {aft:Array Edge} {g:Option (Nat×Bool)}
variable {α β:Type} {e:Enc α} {r:Rep α}

def LentAll (M L:List Fact) (L0:List Fact):Prop:=∀f∈L0,Lent M L f
theorem LentAll.nil:LentAll M L []:=fun _ h=>by simp at h
theorem St.callL {w w':World} {M1:List Fact} {F:Nat->Nat->Prop} {U:Nat->Prop} (ho:Kept c.O c.w0 w) (hF:Own c w M F) (hL:∀f∈L,f.p w (Free c F))
  (t:St ⟨w,U,fun _=>False⟩ M1 [] w'):St c (M1++M) L w':=by
 obtain⟨ho',F',hF',_⟩:=t
 have t2:St ⟨w,Free c F,fun _=>False⟩ M1 [] w':=⟨ho',F',⟨hF'.res,hF'.rng,hF'.dis⟩,fun f hf=>by simp at hf⟩
 exact St.call ho hF hL t2
theorem Loud.callL {A:Type} {ret:A->Value} {MO:A->List Fact->List Fact} {f:FuncId} {xs:List Operand} {vs:List Value} {ats:Array TypeId} {L0:List Fact} (hb:HasBody P f)
  (hs:Meets P f vs.toArray L0 ret MO (fun _ l=>l)) (hx:xs.map (ev σ)=vs.map some) (hL:LentAll M L L0) (hMO:∀x l,MO x l=MO x []++l):
  Loud P c n σ M L ⟨d,.call ⟨.value (.func f),xs.toArray,ats⟩,ty,pos,aft,g⟩ ret (fun x=>MO x M) (fun _=>L):=fun a w s t=>by
 have hrun:(execOp a.eval ⟨d,.call ⟨.value (.func f),xs.toArray,ats⟩,ty,pos,aft,g⟩).run P w = .ok (.enter f vs.toArray) w:=by
  have e:=evs s hx
  simp[execOp,resolve,Act.eval,Deferred.ofValue,invoke,hb _ w,e]
 simp only[Oper.wp,hrun,Oper.upon]
 obtain⟨ho,F,hF,hLF⟩:=t
 refine(hs w (fun _=>True) (fun f hf=>hL f hf w (Free c F) F _ hLF hF.res (fun _ _=>trivial) (fun _ _ _=>trivial))).mono ?_
 rintro e w' ⟨x,rfl,ht⟩
 refine⟨x,rfl,?_⟩
 rw[hMO]
 exact St.callL ho hF hLF ht

end
end Go.Sx
end
section
namespace Go.Sx
open Go.RowKit
section
variable {P:Program} {rd:Option Nat} {c:Ctx} {n:Sz} {σ:Fr} {M L M' L':List Fact} {Q:Exit->Act->World->Prop} {ops:Array Oper} {rest:List Oper} {K:Act->World->Prop}
variable {d:Option Tmp} {D:Nat} {ty:TypeId} {pos:String} {aft:Array Edge} {g:Option (Nat×Bool)}
variable {α β:Type} {e:Enc α} {r:Rep α}
theorem St.weakE {w:World} (h:St c M L w) (hM:SubM M M') (hL:LentAll [] L L'):St c M' L' w:=by
 obtain⟨ho,F,hF,hf⟩:=h.weak (L':=L) hM (fun _ h=>h)
 exact⟨ho,F,hF,fun f hfl=>hL f hfl w (Free c F) (fun _ _=>False) (Free c F) hf (fun _ _ h=>by simp at h) (fun _ h=>h) (fun _ _ h=>h.elim)⟩
theorem LentAll.refl (M L:List Fact):LentAll M L L:=fun f hf=>by
 obtain⟨j,hj⟩:=List.getElem?_of_mem hf
 exact Lent.fact j hj

def MidI {A B:Type} (c:Ctx) (n:Sz) (C:A->Prop) (σI:A->B->Fr) (MI LI:A->B->List Fact) (a:Act) (w:World):Prop:=∃x y,C x∧Sub n (σI x y) a∧St c (MI x y) (LI x y) w
theorem J.midI {A B:Type} {x:Code} (C:A->Prop) (σI:A->B->Fr) (MI LI:A->B->List Fact) (h1:J c n σ M L (x.wpr rd P (Exit.then (MidI c n C σI MI LI) Q))) (h2:∀a b,C a->J c n (σI a b) (MI a b) (LI a b) K):
  J c n σ M L (x.wpr rd P (Exit.then K Q)):=fun a w s t=>wpr_mono (fun e a' w' q=>by
 cases e with
 |normal=>obtain⟨z,y,hC,hs,ht⟩:=q;exact h2 z y hC a' w' hs ht
 |exit id=>exact q
 |goto l=>exact q
 |ret=>exact q
 |panic ch=>exact q
 |outgrown=>exact q) (h1 a w s t)
theorem J.meetI {A B:Type} {C:A->Prop} {σI:A->B->Fr} {MI LI:A->B->List Fact} (x:A) (y:B) (hC:C x) (hs:SubF σ (σI x y)) (hM:SubM M (MI x y)) (hL:LentAll [] L (LI x y)):J c n σ M L (MidI c n C σI MI LI):=
 fun _ _ s t=>⟨x,y,hC,s.weak hs,t.weakE hM hL⟩


variable {l:List Oper} {m:List Nat} {k0:Nat} {H Bs:List (Nat×List Fact×List Fact)} {rs:List Nat}

def rvSem (tmps:Array Value):ResultVar->Sem Value
 | .tmp t=>pure (tmps.getD t undef)
 | .cell a t=>do loadVar t (<-asAddr (tmps.getD a undef))
theorem results_rv (fn:Func) (tmps:Array Value):results fn tmps=(do let vs <-fn.results.mapM (rvSem tmps);pure (if h:vs.size=1 then vs[0]else .tuple vs)):=rfl
def RV (P:Program) (c:Ctx) (n:Sz) (σ:Fr) (M L:List Fact) (rv:ResultVar) (v:Value):Prop:=∀a w,Sub n σ a->St c M L w->(rvSem a.tmps rv).run P w = .ok v w
theorem RV.tmp {t:Tmp} {v:Value} (h:lk σ t=some v):RV P c n σ M L (.tmp t) v:=fun a w s _=>by simp[rvSem,s.slot t v h]
variable {A:Type} {ret:A->Value} {MO LO:A->List Fact->List Fact} {fn:Func}
theorem J.retG1 (x:A) {r1:ResultVar} {v1:Value} (hx:ret x=v1) (hres:fn.results = #[r1]) (h1:RV P c n σ M L r1 v1) (hM:SubM M (MO x [])) (hL:LentAll [] L (LO x [])) (hds:n.ds=[]:=by rfl):J c n σ M L (bodyPost P fn (Post c ret MO LO) .ret):=fun a w s t=>by
 have hr:(results fn a.tmps).run P w = .ok (ret x) w:=by
  have:=h1 a w s t
  simp only[results_rv,hres]
  simp[hx,this]
 exact body_end (.inl rfl) (s.defers.trans hds) hr ⟨x,rfl,t.weakE hM hL⟩

def wI:IntKind->Int->Int
 | .i64,x=>if -9223372036854775808<=x∧x<=9223372036854775807 then x else IntKind.i64.wrap x
 | .u32,x=>if 0<=x∧x<=4294967295 then x else IntKind.u32.wrap x
 |k,x=>k.wrap x
theorem wI_eq (k:IntKind) (x:Int):wI k x=k.wrap x:=by
 unfold wI
 split
 ·split
  ·rename_i h;exact(wrap64_in h.1 h.2).symm
  ·rfl
 ·split
  ·rename_i h
   unfold IntKind.wrap
   simp only[IntKind.bits,IntKind.signed]
   simp
   omega
  ·rfl
 ·rfl
theorem Y.addW {t t':TypeId} {x y:Operand} {k:IntKind} {p q:Int} (hx:ev σ x=some (.int k p)) (hy:ev σ y=some (.int k q)):
  Y P c n σ M L ⟨d,.binOp .add t x y t',ty,pos,aft,g⟩ (.int k (wI k (p+q))):=fun a w s _=>by
 simp[wI_eq,execOp,s.eval hx,s.eval hy,binOp,Op.intArith,guard_int]
end
end Go.Sx
end
section
namespace Go.Sx
theorem ckT {β:Type} {p:Prop} [Decidable p] (hp:p) (x:Option β):ck p x=x:=if_pos hp
theorem wr {x:Int} (h1 : -9223372036854775808<=x) (h2:x<=9223372036854775807):wI .i64 x=x:=if_pos ⟨h1,h2⟩
end Go.Sx
end
section
set_option linter.unusedSectionVars false
namespace Go.Sx
open Go.RowKit Go.ChangeMaps
section
variable {κ ν:Type} [DecidableEq κ] {ek:κ->Value} {ev:ν->Value} {R:Type}
def rem (l:List (κ×ν)) (seen:List Nat):List (κ×ν):=((List.range l.length).filter (fun i=> !seen.contains i)).filterMap (fun i=>l[i]?)
end
section
variable {P:Program} {rd:Option Nat} {c:Ctx} {n:Sz} {σ σ':Fr} {M L M' L':List Fact} {Q:Exit->Act->World->Prop} {ops:Array Oper} {rest:List Oper}
variable {d:Option Tmp} {ty:TypeId} {pos:String} {aft:Array Edge} {g:Option (Nat×Bool)}
variable {κ ν:Type} [DecidableEq κ] {ek:κ->Value} {ev:ν->Value} {R:Type}
end
end Go.Sx
end
section
namespace Go.Gx
open Go Go.Sx
noncomputable section
inductive GV where
 |int (k:IntKind) (n:Int)
 |bool (b:Bool)
 |str (n len:Nat)
 |ptr (h off:Nat)
 |pnil
 |sl (h off len sz:Nat)
 |snil
 |map (h:Nat)
 |fn (f:FuncId) (first caps:List GV)
 |fnil
 |inil
 |agg (cs:List GV)
 |tup (vs:List GV)
 |un
 |bad
 |opn (h:Nat)
inductive GO where
 |cells (cs:List GV)
 |mp (es:List (GV×GV))
inductive Tr (α:Type) where
 |lf
 |nd (a:Option α) (l r:Tr α)
def ob {α β:Type} (o:Option α) (f:α->Option β):Option β:=Option.casesOn (motive:=fun _=>Option β) o none f
def Tr.get {α:Type} (t:Tr α):Nat->Option α:=Tr.rec (motive:=fun _=>Nat->Option α) (fun _=>none) (fun a _ _ gl gr n=>Bool.casesOn (motive:=fun _=>Option α) (Nat.beq n 0) (Bool.casesOn (motive:=fun _=>Option α) (Nat.beq (Nat.mod n 2) 1) (gr (Nat.sub (Nat.div n 2) 1)) (gl (Nat.div n 2))) a) t
def Tr.setN {α:Type} (x:Option α) (f:Nat):Nat->Tr α:=Nat.rec (motive:=fun _=>Nat->Tr α) (fun _=> .lf) (fun _ ih n=>bif Nat.beq n 0 then .nd x .lf .lf else bif Nat.beq (Nat.mod n 2) 1 then .nd none (ih (Nat.div n 2)) .lf else .nd none .lf (ih (Nat.sub (Nat.div n 2) 1))) f
def Tr.set {α:Type} (x:Option α) (t:Tr α):Nat->Tr α:=Tr.rec (motive:=fun _=>Nat->Tr α) (fun n=>Tr.setN x (Nat.succ n) n) (fun a l r sl sr n=>Bool.casesOn (motive:=fun _=>Tr α) (Nat.beq n 0) (Bool.casesOn (motive:=fun _=>Tr α) (Nat.beq (Nat.mod n 2) 1) (.nd a l (sr (Nat.sub (Nat.div n 2) 1))) (.nd a (sl (Nat.div n 2)) r)) (.nd x l r)) t
def Tr.setNK {α R:Type} (x:Option α) (f:Nat):Nat->(Tr α->R)->R:=Nat.rec (motive:=fun _=>Nat->(Tr α->R)->R) (fun _ k=>k .lf) (fun _ ih n k=>Bool.casesOn (motive:=fun _=>R) (Nat.beq n 0) (Bool.casesOn (motive:=fun _=>R) (Nat.beq (Nat.mod n 2) 1) (ih (Nat.sub (Nat.div n 2) 1) fun t=>k (.nd none .lf t)) (ih (Nat.div n 2) fun t=>k (.nd none t .lf))) (k (.nd x .lf .lf))) f
def Tr.setK {α R:Type} (x:Option α) (t:Tr α):Nat->(Tr α->R)->R:=Tr.rec (motive:=fun _=>Nat->(Tr α->R)->R) (fun n k=>Tr.setNK x (Nat.succ n) n k) (fun a l r sl sr n k=>Bool.casesOn (motive:=fun _=>R) (Nat.beq n 0) (Bool.casesOn (motive:=fun _=>R) (Nat.beq (Nat.mod n 2) 1) (sr (Nat.sub (Nat.div n 2) 1) fun t=>k (.nd a l t)) (sl (Nat.div n 2) fun t=>k (.nd a t r))) (k (.nd x l r))) t
def sn {α:Type} (n:Nat) (f:Nat->α):α:=Nat.rec (motive:=fun _=>α) (f 0) (fun m _=>f (Nat.succ m)) n
def fi {α:Type} (z:Int) (f:Int->α):α:=Int.casesOn (motive:=fun _=>α) z (fun a=>sn a fun a=>f (.ofNat a)) (fun a=>sn a fun a=>f (.negSucc a))
def fb (b:Bool):Option GV:=Bool.casesOn (motive:=fun _=>Option GV) b (some (.bool false)) (some (.bool true))
structure GH where
 n:Nat
 t:Tr (Nat×GO)
def GH.get (H:GH) (h:Nat):Option GO:=ob (H.t.get h) fun p=>some p.2
def GH.ver (H:GH) (h:Nat):Option Nat:=ob (H.t.get h) fun p=>some p.1
def GH.set (H:GH) (h:Nat) (o:GO):GH:=⟨Nat.succ H.n,H.t.set (some (H.n,o)) h⟩
def GH.del (H:GH) (h:Nat):GH:=⟨H.n,H.t.set none h⟩
def GH.newK {α:Type} (H:GH) (o:GO) (f:Nat->GH->α):α:=sn H.n fun n=>H.t.setK (some (n,o)) n fun t=>sn (Nat.succ n) fun m=>f n ⟨m,t⟩
def GH.setK {α:Type} (H:GH) (h:Nat) (o:GO) (f:GH->α):α:=sn H.n fun n=>H.t.setK (some (n,o)) h fun t=>sn (Nat.succ n) fun m=>f ⟨m,t⟩
def GH.delK {α:Type} (H:GH) (h:Nat) (f:GH->α):α:=H.t.setK none h fun t=>f ⟨H.n,t⟩
def GO.asC (o:GO):Option (List GV):=GO.casesOn (motive:=fun _=>Option (List GV)) o (fun cs=>some cs) (fun _=>none)
def GO.asM (o:GO):Option (List (GV×GV)):=GO.casesOn (motive:=fun _=>Option (List (GV×GV))) o (fun _=>none) (fun es=>some es)
def GH.cells (H:GH) (h:Nat):Option (List GV):=ob (H.get h) GO.asC
abbrev GF:=List (Nat×GV)
def glk (σ:GF) (t:Nat):Option GV:=List.rec (motive:=fun _=>Option GV) none (fun p _ ih=>Bool.casesOn (motive:=fun _=>Option GV) (Nat.beq t p.1) ih (some p.2)) σ
def ltI (a b:Int):Bool:=Int.casesOn (motive:=fun _=>Bool) a (fun a=>Int.casesOn (motive:=fun _=>Bool) b (fun b=>Nat.blt a b) (fun _=>false)) (fun a=>Int.casesOn (motive:=fun _=>Bool) b (fun _=>true) (fun b=>Nat.blt b a))
def eqI (a b:Int):Bool:=Int.casesOn (motive:=fun _=>Bool) a (fun a=>Int.casesOn (motive:=fun _=>Bool) b (fun b=>Nat.beq a b) (fun _=>false)) (fun a=>Int.casesOn (motive:=fun _=>Bool) b (fun _=>false) (fun b=>Nat.beq a b))
def asN (a:Int):Option Nat:=Int.casesOn (motive:=fun _=>Option Nat) a (fun a=>some a) (fun _=>none)
def eqS (a b:Nat×Nat):Bool:=bif Nat.beq a.2 b.2 then Nat.beq a.1 b.1 else false
def eqB (a b:Bool):Bool:=Bool.casesOn (motive:=fun _=>Bool) a (Bool.casesOn (motive:=fun _=>Bool) b true false) b
def nth {α:Type} (l:List α):Nat->Option α:=List.rec (motive:=fun _=>Nat->Option α) (fun _=>none) (fun x _ ih n=>Nat.casesOn (motive:=fun _=>Option α) n (some x) ih) l
def lset {α:Type} (v:α) (l:List α):Nat->Option (List α):=List.rec (motive:=fun _=>Nat->Option (List α)) (fun _=>none) (fun x r ih n=>Nat.casesOn (motive:=fun _=>Option (List α)) n (some (v::r)) (fun n=>ob (ih n) fun r'=>some (x::r'))) l
def gput (vs:List GV):Nat->List GV->Option (List GV):=List.rec (motive:=fun _=>Nat->List GV->Option (List GV)) (fun _ cs=>some cs) (fun v _ ih o cs=>ob (lset v cs o) fun cs'=>sn (Nat.succ o) fun o'=>ih o' cs') vs
def tk {α:Type} (l:List α):Nat->Option (List α):=List.rec (motive:=fun _=>Nat->Option (List α)) (fun n=>Nat.casesOn (motive:=fun _=>Option (List α)) n (some []) (fun _=>none)) (fun x _ ih n=>Nat.casesOn (motive:=fun _=>Option (List α)) n (some []) (fun n=>ob (ih n) fun r=>some (x::r))) l
def dp {α:Type} (l:List α):Nat->Option (List α):=List.rec (motive:=fun _=>Nat->Option (List α)) (fun n=>Nat.casesOn (motive:=fun _=>Option (List α)) n (some []) (fun _=>none)) (fun x r ih n=>Nat.casesOn (motive:=fun _=>Option (List α)) n (some (x::r)) ih) l
def slc {α:Type} (l:List α) (o n:Nat):Option (List α):=ob (dp l o) fun r=>tk r n
def encB (l:List UInt8):Nat:=List.rec (motive:=fun _=>Nat) 0 (fun b _ ih=>Nat.add b.toNat (Nat.mul 256 ih)) l
def bytesOfV (s:ByteArray):List UInt8:=s.data.toList
def GV.asI (v:GV):Option (IntKind×Int):=GV.casesOn (motive_1:=fun _=>Option (IntKind×Int)) v (fun a0 a1=>some (a0,a1)) (fun _=>none) (fun _ _=>none) (fun _ _=>none) none (fun _ _ _ _=>none) none (fun _=>none) (fun _ _ _=>none) none none (fun _=>none) (fun _=>none) none none (fun _=>none)
def GV.asB (v:GV):Option (Bool):=GV.casesOn (motive_1:=fun _=>Option (Bool)) v (fun _ _=>none) (fun a0=>some a0) (fun _ _=>none) (fun _ _=>none) none (fun _ _ _ _=>none) none (fun _=>none) (fun _ _ _=>none) none none (fun _=>none) (fun _=>none) none none (fun _=>none)
def GV.asP (v:GV):Option (Nat×Nat):=GV.casesOn (motive_1:=fun _=>Option (Nat×Nat)) v (fun _ _=>none) (fun _=>none) (fun _ _=>none) (fun a0 a1=>some (a0,a1)) none (fun _ _ _ _=>none) none (fun _=>none) (fun _ _ _=>none) none none (fun _=>none) (fun _=>none) none none (fun _=>none)
def GV.asS (v:GV):Option (Nat×Nat×Nat×Nat):=GV.casesOn (motive_1:=fun _=>Option (Nat×Nat×Nat×Nat)) v (fun _ _=>none) (fun _=>none) (fun _ _=>none) (fun _ _=>none) none (fun a0 a1 a2 a3=>some (a0,a1,a2,a3)) none (fun _=>none) (fun _ _ _=>none) none none (fun _=>none) (fun _=>none) none none (fun _=>none)
def GV.asF (v:GV):Option (Nat×List GV×List GV):=GV.casesOn (motive_1:=fun _=>Option (Nat×List GV×List GV)) v (fun _ _=>none) (fun _=>none) (fun _ _=>none) (fun _ _=>none) none (fun _ _ _ _=>none) none (fun _=>none) (fun a0 a1 a2=>some (a0,a1,a2)) none none (fun _=>none) (fun _=>none) none none (fun _=>none)
def GV.asT (v:GV):Option (List GV):=GV.casesOn (motive_1:=fun _=>Option (List GV)) v (fun _ _=>none) (fun _=>none) (fun _ _=>none) (fun _ _=>none) none (fun _ _ _ _=>none) none (fun _=>none) (fun _ _ _=>none) none none (fun _=>none) (fun a0=>some a0) none none (fun _=>none)
def GV.asStr (v:GV):Option (Nat×Nat):=GV.casesOn (motive_1:=fun _=>Option (Nat×Nat)) v (fun _ _=>none) (fun _=>none) (fun a0 a1=>some (a0,a1)) (fun _ _=>none) none (fun _ _ _ _=>none) none (fun _=>none) (fun _ _ _=>none) none none (fun _=>none) (fun _=>none) none none (fun _=>none)
def GV.asM (v:GV):Option (Nat):=GV.casesOn (motive_1:=fun _=>Option (Nat)) v (fun _ _=>none) (fun _=>none) (fun _ _=>none) (fun _ _=>none) none (fun _ _ _ _=>none) none (fun a0=>some a0) (fun _ _ _=>none) none none (fun _=>none) (fun _=>none) none none (fun _=>none)
def GV.asA (v:GV):Option (List GV):=GV.casesOn (motive_1:=fun _=>Option (List GV)) v (fun _ _=>none) (fun _=>none) (fun _ _=>none) (fun _ _=>none) none (fun _ _ _ _=>none) none (fun _=>none) (fun _ _ _=>none) none none (fun a0=>some a0) (fun _=>none) none none (fun _=>none)
def GV.cells (v:GV):Option (List GV):=GV.casesOn (motive_1:=fun _=>Option (List GV)) v (fun a0 a1=>some [GV.int a0 a1]) (fun a0=>some [GV.bool a0]) (fun a0 a1=>some [GV.str a0 a1]) (fun a0 a1=>some [GV.ptr a0 a1]) (some [GV.pnil]) (fun a0 a1 a2 a3=>some [GV.sl a0 a1 a2 a3]) (some [GV.snil]) (fun a0=>some [GV.map a0]) (fun a0 a1 a2=>some [GV.fn a0 a1 a2]) (some [GV.fnil]) (some [GV.inil]) (fun a0=>some a0) (fun a0=>none) (none) (none) (fun a0=>none)
def GV.isSnil (v:GV):Bool:=GV.casesOn (motive_1:=fun _=>Bool) v (fun _ _=>false) (fun _=>false) (fun _ _=>false) (fun _ _=>false) (false) (fun _ _ _ _=>false) (true) (fun _=>false) (fun _ _ _=>false) (false) (false) (fun _=>false) (fun _=>false) (false) (false) (fun _=>false)
def GV.isInil (v:GV):Bool:=GV.casesOn (motive_1:=fun _=>Bool) v (fun _ _=>false) (fun _=>false) (fun _ _=>false) (fun _ _=>false) (false) (fun _ _ _ _=>false) (false) (fun _=>false) (fun _ _ _=>false) (false) (true) (fun _=>false) (fun _=>false) (false) (false) (fun _=>false)
def GV.nilck (v:GV):Option GV:=GV.casesOn (motive_1:=fun _=>Option GV) v (fun a0 a1=>none) (fun a0=>none) (fun a0 a1=>none) (fun a0 a1=>some (GV.ptr a0 a1)) (none) (fun a0 a1 a2 a3=>none) (none) (fun a0=>none) (fun a0 a1 a2=>some (GV.fn a0 a1 a2)) (none) (none) (fun a0=>none) (fun a0=>none) (none) (none) (fun a0=>none)
def tdE (d:TypeDesc):Bool:=TypeDesc.casesOn (motive:=fun _=>Bool) d false false (fun _=>false) (fun _=>false) (fun _=>false) false false (fun _=>false) (fun _=>false) (fun _ _=>false) (fun _ _=>false) (fun _ _=>false) (fun _=>false) (fun _ _ _=>false) (fun a0=>Nat.beq (Array.size a0) 0) (fun _=>false) (fun _ _=>false)
def tdS (d:TypeDesc):Option TypeId:=TypeDesc.casesOn (motive:=fun _=>Option TypeId) d none none (fun _=>none) (fun _=>none) (fun _=>none) none none (fun _=>none) (fun a0=>some a0) (fun _ _=>none) (fun _ _=>none) (fun _ _=>none) (fun _=>none) (fun _ _ _=>none) (fun _=>none) (fun _=>none) (fun _ _=>none)
def tdA (d:TypeDesc):Option (Nat×TypeId):=TypeDesc.casesOn (motive:=fun _=>Option (Nat×TypeId)) d none none (fun _=>none) (fun _=>none) (fun _=>none) none none (fun _=>none) (fun _=>none) (fun a0 a1=>some (a0,a1)) (fun _ _=>none) (fun _ _=>none) (fun _=>none) (fun _ _ _=>none) (fun _=>none) (fun _=>none) (fun _ _=>none)
def tdF (d:TypeDesc):Option (Array Field):=TypeDesc.casesOn (motive:=fun _=>Option (Array Field)) d none none (fun _=>none) (fun _=>none) (fun _=>none) none none (fun _=>none) (fun _=>none) (fun _ _=>none) (fun _ _=>none) (fun _ _=>none) (fun a0=>some a0) (fun _ _ _=>none) (fun _=>none) (fun _=>none) (fun _ _=>none)
def tdI (d:TypeDesc):Option IntKind:=TypeDesc.casesOn (motive:=fun _=>Option IntKind) d none none (fun a0=>some a0) (fun _=>none) (fun _=>none) none none (fun _=>none) (fun _=>none) (fun _ _=>none) (fun _ _=>none) (fun _ _=>none) (fun _=>none) (fun _ _ _=>none) (fun _=>none) (fun _=>none) (fun _ _=>none)
def tdStr (d:TypeDesc):Bool:=TypeDesc.casesOn (motive:=fun _=>Bool) d false false (fun _=>false) (fun _=>false) (fun _=>false) (true) false (fun _=>false) (fun _=>false) (fun _ _=>false) (fun _ _=>false) (fun _ _=>false) (fun _=>false) (fun _ _ _=>false) (fun _=>false) (fun _=>false) (fun _ _=>false)
def tdB (d:TypeDesc):Bool:=TypeDesc.casesOn (motive:=fun _=>Bool) d false (true) (fun _=>false) (fun _=>false) (fun _=>false) false false (fun _=>false) (fun _=>false) (fun _ _=>false) (fun _ _=>false) (fun _ _=>false) (fun _=>false) (fun _ _ _=>false) (fun _=>false) (fun _=>false) (fun _ _=>false)
def tdM (d:TypeDesc):Option (TypeId×TypeId):=TypeDesc.casesOn (motive:=fun _=>Option (TypeId×TypeId)) d none none (fun _=>none) (fun _=>none) (fun _=>none) none none (fun _=>none) (fun _=>none) (fun _ _=>none) (fun a0 a1=>some (a0,a1)) (fun _ _=>none) (fun _=>none) (fun _ _ _=>none) (fun _=>none) (fun _=>none) (fun _ _=>none)
def ofV1:Value->Option GV
 | .int k n=>some (.int k n)
 | .bool b=>some (.bool b)
 | .slice none 0 0=>some .snil
 | .pointer none=>some .pnil
 | .nilFunc=>some .fnil
 | .nilIface=>some .inil
 | .string s=>sn (encB (bytesOfV s)) fun n=>sn (bytesOfV s).length fun l=>some (.str n l)
 |_=>none
def ofVs:List Value->Option (List GV)
 | []=>some []
 |v::vs=>ob (ofV1 v) fun x=>ob (ofVs vs) fun xs=>some (x::xs)
def ofV:Value->Option GV
 | .agg cs=>ob (ofVs cs.toList) fun xs=>some (.agg xs)
 |v=>ofV1 v
def semV (s:Sem Value):Option GV:=match s with
 | .pure v=>ofV1 v
 |_=>none
def i64in (z:Int):Bool:=Int.casesOn (motive:=fun _=>Bool) z (fun a=>Nat.blt a 9223372036854775808) (fun a=>Nat.blt a 9223372036854775808)
def isI64 (k:IntKind):Bool:=IntKind.casesOn (motive:=fun _=>Bool) k false false false true false false false false
def gw (k:IntKind) (z:Int):Option GV:=fi z fun z=>bif isI64 k then(bif i64in z then some (.int k z)else none)else fi (k.wrap z) fun z=>some (.int k z)
def eqK (a b:IntKind):Bool:=decide (a=b)
def binI (op:BinOp) (k:IntKind) (a b:Int):Option GV:=BinOp.casesOn (motive:=fun _=>Option GV) op (gw k (a+b)) (gw k (a - b)) (semV (binOp .mul 0 (.int k a) (.int k b))) (semV (binOp .quo 0 (.int k a) (.int k b))) (semV (binOp .rem 0 (.int k a) (.int k b))) (semV (binOp .and 0 (.int k a) (.int k b))) (semV (binOp .or 0 (.int k a) (.int k b))) (semV (binOp .xor 0 (.int k a) (.int k b))) (semV (binOp .shl 0 (.int k a) (.int k b))) (semV (binOp .shr 0 (.int k a) (.int k b))) (semV (binOp .andNot 0 (.int k a) (.int k b))) (fb (eqI a b)) (fb (!eqI a b)) (fb (ltI a b)) (fb (!ltI b a)) (fb (ltI b a)) (fb (!ltI a b))
def isShift (op:BinOp):Bool:=BinOp.casesOn (motive:=fun _=>Bool) op false false false false false false false false true true false false false false false false false
def catS (a b:Nat×Nat):Option GV:=bif Nat.blt (Nat.add a.2 b.2) 16777216 then sn (Nat.add a.1 (Nat.mul (Nat.pow 2 (Nat.mul 8 a.2)) b.1)) fun n=>sn (Nat.add a.2 b.2) fun l=>some (.str n l)else none
def binS (op:BinOp) (a b:Nat×Nat):Option GV:=BinOp.casesOn (motive:=fun _=>Option GV) op (catS a b) none none none none none none none none none none (fb (eqS a b)) (fb (!eqS a b)) none none none none
def binN (op:BinOp):Option GV:=BinOp.casesOn (motive:=fun _=>Option GV) op none none none none none none none none none none none (some (.bool true)) (some (.bool false)) none none none none
def binB (op:BinOp) (a b:Bool):Option GV:=BinOp.casesOn (motive:=fun _=>Option GV) op none none none none none none none none none none none (fb (eqB a b)) (fb (!eqB a b)) none none none none
def gev (σ:GF) (o:Operand):Option GV:=Operand.casesOn (motive:=fun _=>Option GV) o (fun t=>glk σ t) ofV (fun _=>none) (fun f=>some (.fn f [] []))
def gevs (σ:GF) (l:List Operand):Option (List GV):=List.rec (motive:=fun _=>Option (List GV)) (some []) (fun x _ ih=>ob (gev σ x) fun v=>ob ih fun vs=>some (v::vs)) l
def gparts (σ:GF) (l:List (Nat×Operand)):Option (List (Nat×GV)):=List.rec (motive:=fun _=>Option (List (Nat×GV))) (some []) (fun p _ ih=>ob (gev σ p.2) fun v=>ob ih fun vs=>some ((p.1,v)::vs)) l
abbrev TB:=Nat->Option Ty
def elemOf (tb:TB) (T:TypeId):Option (TypeId×Ty):=ob (tb T) fun t=>ob (tdS t.desc) fun e=>ob (tb e) fun te=>some (e,te)
def sizesOf (tb:TB) (l:List Field):Option (List (Nat×Nat)):=List.rec (motive:=fun _=>Option (List (Nat×Nat))) (some []) (fun f _ ih=>ob (tb f.type) fun t=>ob ih fun r=>some ((f.offset,t.size)::r)) l
def fieldsOf (tb:TB) (T:TypeId):Option (List Field):=ob (tb T) fun t=>ob (tdF t.desc) fun fs=>some fs.toList
def placesOf (tb:TB) (T:TypeId):Option (List (Nat×Nat)):=ob (fieldsOf tb T) fun fs=>sizesOf tb fs

abbrev OR:=Option (GV×GH)
def vPick (c a b:GV):Option GV:=ob c.asB fun q=>Bool.casesOn (motive:=fun _=>Option GV) q (some b) (some a)
def glen (v:GV):Option Nat:=bif v.isSnil then some 0 else ob v.asS fun s=>some s.2.2.1
def leafEq (t:Ty) (a b:GV):Option Bool:=Option.casesOn (motive:=fun _=>Option Bool) a.asI (Option.casesOn (motive:=fun _=>Option Bool) a.asStr (ob a.asB fun x=>ob b.asB fun y=>bif tdB t.desc then some (eqB x y)else none) fun x=>ob b.asStr fun y=>bif tdStr t.desc then some (eqS x y)else none) fun x=>ob b.asI fun y=>ob (tdI t.desc) fun _=>bif eqK x.1 y.1 then some (eqI x.2 y.2)else none
def eqFs (tb:TB) (cs ds:List GV) (fs:List Field):Option Bool:=List.rec (motive:=fun _=>Option Bool) (some true) (fun f _ ih=>ob (tb f.type) fun t=>ob (nth cs f.offset) fun a=>ob (nth ds f.offset) fun b=>ob (leafEq t a b) fun q=>bif q then ih else some false) fs
def leafT (t:Ty):Bool:=bif tdB t.desc then true else bif tdStr t.desc then true else Option.casesOn (motive:=fun _=>Bool) (tdI t.desc) false fun _=>true
def leafFs (tb:TB) (fs:List Field):Bool:=List.rec (motive:=fun _=>Bool) true (fun f _ ih=>Option.casesOn (motive:=fun _=>Bool) (tb f.type) false fun t=>bif leafT t then ih else false) fs
def eqRng (T:Nat):Bool:=bif Nat.blt 31 T then Nat.blt T 512 else false
def vBinX (tb:TB) (op:BinOp) (T:TypeId) (v u:GV):Option GV:=Option.casesOn (motive:=fun _=>Option GV) v.asA (bif u.isSnil then ob (glen v) fun _=>ob (tb T) fun t=>ob (tdS t.desc) fun _=>binB op v.isSnil true else none) fun cs=>ob u.asA fun ds=>bif eqRng T then ob (fieldsOf tb T) fun fs=>bif leafFs tb fs then ob (eqFs tb cs ds fs) fun q=>binB op q true else none else none
def vBin (tb:TB) (op:BinOp) (T:TypeId) (v u:GV):Option GV:=
 Option.casesOn (motive:=fun _=>Option GV) v.asI
  (Option.casesOn (motive:=fun _=>Option GV) v.asStr (Option.casesOn (motive:=fun _=>Option GV) v.asB (bif v.isInil then(bif u.isInil then ob (tb T) fun t=>bif tdE t.desc then binN op else none else none)else vBinX tb op T v u) fun a=>ob u.asB fun b=>ob (tb T) fun t=>bif tdB t.desc then binB op a b else none) fun a=>ob u.asStr fun b=>binS op a b)
  fun a=>ob u.asI fun b=>bif isShift op then semV (binOp op 0 (.int a.1 a.2) (.int b.1 b.2))else bif eqK a.1 b.1 then binI op a.1 a.2 b.2 else none
def vUn (op:UnOp) (v:GV):Option GV:=UnOp.casesOn (motive:=fun _=>Option GV) op (ob v.asI fun a=>gw a.1 (0 - a.2)) none (ob v.asB fun b=>fb (!b)) none
def vConv (tb:TB) (S D:TypeId) (v:GV):Option GV:=ob v.asI fun a=>ob (tb S) fun s=>ob (tdI s.desc) fun _=>ob (tb D) fun t=>ob (tdI t.desc) fun k=>fi (k.wrap a.2) fun z=>some (.int k z)
def vB (o:Option GV) (d:Nat):Option Nat:=Option.casesOn (motive:=fun _=>Option Nat) o (some d) fun v=>ob v.asI fun a=>asN a.2
def vSliceS (s:Nat×Nat) (l h:Nat):Option GV:=bif Nat.ble l h then(bif Nat.ble h s.2 then sn (Nat.mod (Nat.shiftRight s.1 (Nat.mul 8 l)) (Nat.pow 2 (Nat.mul 8 (Nat.sub h l)))) fun n=>sn (Nat.sub h l) fun k=>some (.str n k)else none)else none
def vSliceL (s:Nat×Nat×Nat×Nat) (sz l h:Nat):Option GV:=bif Nat.beq sz s.2.2.2 then(bif Nat.ble l h then(bif Nat.ble h s.2.2.1 then sn (Nat.add s.2.1 (Nat.mul l sz)) fun o=>sn (Nat.sub h l) fun k=>some (.sl s.1 o k sz)else none)else none)else none
def vSliceP (p:Nat×Nat) (n sz l h:Nat):Option GV:=bif Nat.ble l h then(bif Nat.ble h n then(bif Nat.beq sz 0 then none else sn (Nat.add p.2 (Nat.mul l sz)) fun o=>sn (Nat.sub h l) fun k=>some (.sl p.1 o k sz))else none)else none
def vSlice (tb:TB) (T:TypeId) (v:GV) (lo hi:Option GV) (H:GH):Option GV:=ob (vB lo 0) fun l=>ob (tb T) fun t=>
 Option.casesOn (motive:=fun _=>Option GV) v.asStr
  (Option.casesOn (motive:=fun _=>Option GV) v.asS
   (Bool.casesOn (motive:=fun _=>Option GV) v.isSnil (ob v.asP fun p=>ob (tdA t.desc) fun e=>ob (tb e.2) fun te=>ob (vB hi e.1) fun h=>ob (H.cells p.1) fun cs=>bif Nat.ble (Nat.add p.2 (Nat.mul e.1 te.size)) cs.length then vSliceP p e.1 te.size l h else none) (ob (tdS t.desc) fun e=>ob (tb e) fun te=>ob (vB hi 0) fun h=>bif Nat.beq l 0 then(bif Nat.beq h 0 then some .snil else none)else none))
   fun s=>ob (tdS t.desc) fun e=>ob (tb e) fun te=>ob (vB hi s.2.2.1) fun h=>vSliceL s te.size l h)
  fun s=>ob (vB hi s.2) fun h=>bif tdStr t.desc then vSliceS s l h else none
def vField (tb:TB) (T:TypeId) (f:Nat) (v:GV):Option GV:=ob v.asP fun p=>ob (fieldsOf tb T) fun fs=>ob (nth fs f) fun q=>ob (tb q.type) fun tq=>bif Nat.beq tq.size 0 then none else sn (Nat.add p.2 q.offset) fun o=>some (.ptr p.1 o)
def ofCells (t:Ty) (cs:List GV) (o:Nat):Option GV:=bif aggD t.desc then ob (slc cs o t.size) fun r=>some (.agg r)else nth cs o
def vPart (tb:TB) (T:TypeId) (f:Nat) (v:GV):Option GV:=ob v.asA fun cs=>ob (fieldsOf tb T) fun fs=>ob (nth fs f) fun q=>ob (tb q.type) fun tq=>ofCells tq cs q.offset
def vIndexS (tb:TB) (T:TypeId) (s:Nat×Nat×Nat×Nat) (i:Nat):Option GV:=ob (elemOf tb T) fun te=>bif Nat.blt i s.2.2.1 then sn (Nat.add s.2.1 (Nat.mul i te.2.size)) fun o=>some (.ptr s.1 o)else none
def vIndexP (tb:TB) (T:TypeId) (p:Nat×Nat) (i:Nat):Option GV:=ob (tb T) fun t=>ob (tdA t.desc) fun e=>ob (tb e.2) fun te=>bif Nat.blt i e.1 then sn (Nat.add p.2 (Nat.mul i te.size)) fun o=>some (.ptr p.1 o)else none
def vIndex (tb:TB) (T:TypeId) (v w:GV):Option GV:=ob w.asI fun n=>ob (asN n.2) fun n=>Option.casesOn (motive:=fun _=>Option GV) v.asP (ob v.asS fun s=>vIndexS tb T s n) fun p=>vIndexP tb T p n
def vAt (tb:TB) (T:TypeId) (v w:GV):Option GV:=ob v.asStr fun s=>ob w.asI fun n=>ob (asN n.2) fun n=>ob (tb T) fun t=>bif tdStr t.desc then(bif Nat.blt n s.2 then sn (Nat.mod (Nat.shiftRight s.1 (Nat.mul 8 n)) 256) fun b=>some (.int .u8 (.ofNat b))else none)else none
def vExt (i:Nat) (v:GV):Option GV:=ob v.asT fun vs=>nth vs i
def gfillF (ps:List (Nat×Nat)) (l:List (Nat×GV)):List GV->Option (List GV):=List.rec (motive:=fun _=>List GV->Option (List GV)) (fun cs=>some cs) (fun p _ ih cs=>ob (nth ps p.1) fun q=>ob p.2.cells fun cc=>bif Nat.beq cc.length q.2 then(bif Nat.beq q.2 0 then none else ob (gput cc q.1 cs) ih)else none) l
def gfillA (sz:Nat) (l:List (Nat×GV)):List GV->Option (List GV):=List.rec (motive:=fun _=>List GV->Option (List GV)) (fun cs=>some cs) (fun p _ ih cs=>ob p.2.cells fun cc=>bif Nat.beq cc.length sz then(bif Nat.beq sz 0 then none else ob (gput cc (Nat.mul p.1 sz) cs) ih)else none) l
def zeroOf (tb:TB) (T:TypeId):Option (List GV):=ob (tb T) fun t=>ob (ofV t.zero) fun z=>z.cells
def vBuild (tb:TB) (T:TypeId) (vs:List (Nat×GV)):Option GV:=ob (tb T) fun t=>ob (zeroOf tb T) fun zc=>Option.casesOn (motive:=fun _=>Option GV) (tdF t.desc) (ob (tdA t.desc) fun e=>ob (tb e.2) fun te=>ob (gfillA te.size vs zc) fun cs=>some (.agg cs)) fun _=>ob (placesOf tb T) fun pl=>ob (gfillF pl vs zc) fun cs=>some (.agg cs)
def vLen (tb:TB) (T:TypeId) (v:GV):Option GV:=ob (tb T) fun t=>Option.casesOn (motive:=fun _=>Option GV) v.asStr (ob (tdS t.desc) fun _=>ob (glen v) fun n=>some (.int .i64 (.ofNat n))) fun s=>bif tdStr t.desc then some (.int .i64 (.ofNat s.2))else none
def vCap (tb:TB) (T:TypeId) (v:GV):Option GV:=ob (tb T) fun t=>ob (tdS t.desc) fun _=>bif v.isSnil then some (.int .i64 (.ofNat 0))else none
def vMax (v u:GV):Option GV:=ob v.asI fun a=>ob u.asI fun b=>bif eqK a.1 b.1 then(bif ltI a.2 b.2 then some u else some v)else none
def vMin (v u:GV):Option GV:=ob v.asI fun a=>ob u.asI fun b=>bif eqK a.1 b.1 then(bif ltI b.2 a.2 then some u else some v)else none

def vLoad (tb:TB) (T:TypeId) (v:GV) (H:GH):Option GV:=ob v.asP fun p=>ob (H.cells p.1) fun cs=>ob (tb T) fun t=>ofCells t cs p.2
def vStore (tb:TB) (T:TypeId) (v u:GV) (H:GH):OR:=ob v.asP fun p=>ob (H.cells p.1) fun cs=>ob (tb T) fun t=>ob u.cells fun uc=>bif Nat.beq uc.length t.size then bif Nat.beq t.size 0 then none else ob (gput uc p.2 cs) fun cs'=>H.setK p.1 (.cells cs') fun H'=>some (.un,H')else none
def vBox (v:GV) (H:GH):OR:=ob v.cells fun vc=>H.newK (.cells vc) fun h H'=>some (.ptr h 0,H')
def vAlloc (tb:TB) (T:TypeId) (H:GH):OR:=ob (zeroOf tb T) fun zc=>H.newK (.cells zc) fun h H'=>some (.ptr h 0,H')
def rep (z:List GV) (n:Nat):List GV:=Nat.rec (motive:=fun _=>List GV) [] (fun _ ih=>z++ih) n
def fc {R:Type} (a:List GV):(List GV->R)->R:=List.rec (motive:=fun _=>(List GV->R)->R) (fun k=>k []) (fun x _ ih k=>ih fun r=>k (x::r)) a
def vBuildS (tb:TB) (T:TypeId) (n:Nat) (vs:List (Nat×GV)) (H:GH):OR:=ob (elemOf tb T) fun te=>ob (zeroOf tb te.1) fun zc=>bif Nat.beq zc.length te.2.size then(bif Nat.blt (Nat.mul n te.2.size) 16777216 then(bif Nat.beq te.2.size 0 then none else ob (gfillA te.2.size vs (rep zc n)) fun cs=>H.newK (.cells cs) fun h H'=>some (.sl h 0 n te.2.size,H'))else none)else none
def vMake (tb:TB) (T:TypeId) (v u:GV) (H:GH):OR:=ob (elemOf tb T) fun te=>ob (zeroOf tb te.1) fun zc=>ob v.asI fun k=>ob u.asI fun c=>bif eqI k.2 c.2 then ob (asN k.2) fun k=>(bif Nat.beq zc.length te.2.size then(bif Nat.blt (Nat.mul k te.2.bytes) 16777216 then(bif Nat.blt k 16777216 then(bif Nat.beq te.2.size 0 then none else fc (rep zc k) fun l=>H.newK (.cells l) fun h H'=>some (.sl h 0 k te.2.size,H'))else none)else none)else none)else none
def lap {R:Type} (a b:List GV):(List GV->R)->R:=List.rec (motive:=fun _=>(List GV->R)->R) (fun k=>k b) (fun x _ ih k=>ih fun r=>k (x::r)) a
def content (H:GH) (sz:Nat) (v:GV):Option (Nat×List GV):=bif v.isSnil then some (0,[])else ob v.asS fun s=>bif Nat.beq s.2.2.2 sz then ob (H.cells s.1) fun cs=>ob (slc cs s.2.1 (Nat.mul s.2.2.1 sz)) fun r=>some (s.2.2.1,r)else none
def delS (H:GH) (v:GV):GH:=Option.casesOn (motive:=fun _=>GH) v.asS H fun s=>H.del s.1
def delSK (H:GH) (v:GV) (f:GH->OR):OR:=Option.casesOn (motive:=fun _=>OR) v.asS (f H) fun s=>H.delK s.1 f
def vAppZ (tb:TB) (T T':TypeId) (v u:GV) (H:GH):OR:=bif v.isSnil then ob (elemOf tb T) fun te=>ob (tb T') fun t'=>ob (tdI t'.desc) fun _=>ob (zeroOf tb te.1) fun zc=>ob u.asI fun k=>ob (asN k.2) fun n=>bif Nat.beq zc.length te.2.size then(bif Nat.blt (Nat.mul n (Nat.add te.2.bytes 1)) 16777216 then(bif Nat.beq te.2.size 0 then none else(bif Nat.beq n 0 then none else fc (rep zc n) fun l=>H.newK (.cells l) fun h H'=>some (.sl h 0 n te.2.size,H')))else none)else none else none
def vApp (tb:TB) (T T':TypeId) (v u:GV) (H:GH):OR:=bif Nat.beq T T' then ob (elemOf tb T) fun te=>bif Nat.beq te.2.size 0 then none else ob (zeroOf tb te.1) fun zc=>bif Nat.beq zc.length te.2.size then ob (content H te.2.size v) fun p=>ob (content H te.2.size u) fun q=>Nat.casesOn (motive:=fun _=>OR) q.1 (some (v,H)) (fun _=>sn (Nat.add p.1 q.1) fun n=>bif Nat.blt (Nat.mul n (Nat.add te.2.bytes 1)) 16777216 then lap p.2 q.2 fun l=>delSK H v fun H1=>H1.newK (.cells l) fun h H'=>some (.sl h 0 n te.2.size,H')else none)else none else vAppZ tb T T' v u H
def vCopy (tb:TB) (T:TypeId) (v u:GV) (H:GH):OR:=ob v.asS fun s=>ob u.asS fun r=>ob (elemOf tb T) fun te=>bif Nat.beq s.2.2.2 te.2.size then(bif Nat.beq r.2.2.2 te.2.size then(bif Nat.beq r.2.2.1 s.2.2.1 then ob (H.cells r.1) fun cs=>ob (slc cs r.2.1 (Nat.mul r.2.2.1 te.2.size)) fun xs=>ob (H.cells s.1) fun ds=>List.casesOn (motive:=fun _=>OR) xs none (fun _ _=>ob (gput xs s.2.1 ds) fun ds'=>H.setK s.1 (.cells ds') fun H'=>some (.int .i64 (.ofNat r.2.2.1),H'))else none)else none)else none
def vMakeMap (H:GH):OR:=H.newK (.mp []) fun h H'=>some (.map h,H')
def keyEq (a b:GV):Option Bool:=Option.casesOn (motive:=fun _=>Option Bool) a.asI (ob a.asStr fun x=>ob b.asStr fun y=>some (eqS x y)) fun x=>ob b.asI fun y=>bif eqK x.1 y.1 then some (eqI x.2 y.2)else none
def mfind (k:GV) (es:List (GV×GV)):Option (Option GV):=List.rec (motive:=fun _=>Option (Option GV)) (some none) (fun e _ ih=>ob (keyEq k e.1) fun b=>bif b then some (some e.2)else ih) es
def keyOk (t:Ty) (k:GV):Bool:=Option.casesOn (motive:=fun _=>Bool) k.asI (Option.casesOn (motive:=fun _=>Bool) k.asStr false (fun _=>tdStr t.desc)) (fun x=>Option.casesOn (motive:=fun _=>Bool) (tdI t.desc) false (fun _=>true))
def mapOf (tb:TB) (T:TypeId):Option (Ty×Ty):=ob (tb T) fun t=>ob (tdM t.desc) fun kv=>ob (tb kv.1) fun tk=>ob (tb kv.2) fun tv=>some (tk,tv)
def vLook (tb:TB) (T:TypeId) (ok:Bool) (v k:GV) (H:GH):Option GV:=ob v.asM fun h=>ob (H.get h) fun o=>ob o.asM fun es=>ob (mapOf tb T) fun t=>bif keyOk t.1 k then ob (mfind k es) fun r=>ob (ofV t.2.zero) fun z=>Option.casesOn (motive:=fun _=>Option GV) r (bif ok then some (.tup [z,.bool false])else some z) (fun g=>bif ok then some (.tup [g,.bool true])else some g)else none
def vMapUp (tb:TB) (T:TypeId) (v k u:GV) (H:GH):OR:=ob v.asM fun h=>ob (H.get h) fun o=>ob o.asM fun es=>ob (mapOf tb T) fun t=>bif keyOk t.1 k then ob (mfind k es) fun r=>Option.casesOn (motive:=fun _=>OR) r (H.setK h (.mp (es++[(k,u)])) fun H'=>some (.un,H')) (fun _=>none)else none

section
variable {R:Type}
abbrev KT (R:Type):=GF->GH->(GV->GH->Option R)->Option R
def k1 (x:Operand) (f:GV->Option GV):KT R:=fun σ H k=>ob (some x) fun x=>ob (gev σ x) fun v=>ob (f v) fun g=>k g H
def k2 (x y:Operand) (f:GV->GV->Option GV):KT R:=fun σ H k=>ob (some x) fun x=>ob (gev σ x) fun v=>ob (gev σ y) fun u=>ob (f v u) fun g=>k g H
def k3 (x y z:Operand) (f:GV->GV->GV->Option GV):KT R:=fun σ H k=>ob (some x) fun x=>ob (gev σ x) fun v=>ob (gev σ y) fun u=>ob (gev σ z) fun t=>ob (f v u t) fun g=>k g H
def kMove (x:Operand):KT R:=fun σ H k=>ob (some x) fun x=>ob (gev σ x) fun v=>k v H
def kFn (fn:Fn) (first caps:Array Operand):KT R:=match fn with
 | .func f=>fun σ H k=>ob (gevs σ first.toList) fun us=>ob (gevs σ caps.toList) fun vs=>k (.fn f us vs) H
 |_=>fun _ _ _=>none
def gevo (σ:GF) (o:Option Operand):Option (Option GV):=Option.casesOn (motive:=fun _=>Option (Option GV)) o (some none) fun x=>ob (gev σ x) fun v=>some (some v)
def kSlice (tb:TB) (T:TypeId) (x:Operand) (lo hi mx:Option Operand):KT R:=Option.casesOn (motive:=fun _=>KT R) mx (fun σ H k=>ob (some x) fun x=>ob (gev σ x) fun v=>ob (gevo σ lo) fun l=>ob (gevo σ hi) fun h=>ob (vSlice tb T v l h H) fun g=>k g H) (fun _ _ _ _=>none)
def kBuild (tb:TB) (T:TypeId) (ps:List (Nat×Operand)):KT R:=fun σ H k=>ob (gparts σ ps) fun vs=>ob (vBuild tb T vs) fun g=>k g H
def kOR (r:OR) (k:GV->GH->Option R):Option R:=ob r fun p=>Prod.casesOn (motive:=fun _=>Option R) p fun g h=>k g h
def kLoad (tb:TB) (T:TypeId) (x:Operand):KT R:=fun σ H k=>ob (some x) fun x=>ob (gev σ x) fun v=>ob (vLoad tb T v H) fun g=>k g H
def kStore (tb:TB) (T:TypeId) (x y:Operand):KT R:=fun σ H k=>ob (some x) fun x=>ob (gev σ x) fun v=>ob (gev σ y) fun u=>kOR (vStore tb T v u H) k
def kBox (x:Operand):KT R:=fun σ H k=>ob (some x) fun x=>ob (gev σ x) fun v=>kOR (vBox v H) k
def kAlloc (tb:TB) (T:TypeId):KT R:=fun σ H k=>kOR (vAlloc tb T H) k
def kBuildS (tb:TB) (T:TypeId) (n:Nat) (ps:List (Nat×Operand)):KT R:=fun σ H k=>ob (gparts σ ps) fun vs=>kOR (vBuildS tb T n vs H) k
def kMake (tb:TB) (T:TypeId) (x y:Operand):KT R:=fun σ H k=>ob (some x) fun x=>ob (gev σ x) fun v=>ob (gev σ y) fun u=>kOR (vMake tb T v u H) k
def kMakeMap (r:Option Operand):KT R:=Option.casesOn (motive:=fun _=>KT R) r (fun σ H k=>kOR (vMakeMap H) k) (fun _ _ _ _=>none)
def kLook (tb:TB) (T:TypeId) (x y:Operand) (ok:Bool):KT R:=fun σ H k=>ob (some x) fun x=>ob (gev σ x) fun v=>ob (gev σ y) fun u=>ob (vLook tb T ok v u H) fun g=>k g H
def kMapUp (tb:TB) (T:TypeId) (x y z:Operand):KT R:=fun σ H k=>ob (some x) fun x=>ob (gev σ x) fun v=>ob (gev σ y) fun u=>ob (gev σ z) fun t=>kOR (vMapUp tb T v u t H) k
def kArg1 (xs:List Operand) (f:Operand->KT R):KT R:=List.casesOn (motive:=fun _=>KT R) xs (fun _ _ _=>none) fun x r=>List.casesOn (motive:=fun _=>KT R) r (f x) (fun _ _ _ _ _=>none)
def kArg2 (xs:List Operand) (f:Operand->Operand->KT R):KT R:=List.casesOn (motive:=fun _=>KT R) xs (fun _ _ _=>none) fun x r=>List.casesOn (motive:=fun _=>KT R) r (fun _ _ _=>none) fun y r=>List.casesOn (motive:=fun _=>KT R) r (f x y) (fun _ _ _ _ _=>none)
def kApp (tb:TB) (ts:List TypeId) (x y:Operand):KT R:=fun σ H k=>ob (nth ts 0) fun T=>ob (nth ts 1) fun T'=>ob (gev σ x) fun v=>ob (gev σ y) fun u=>kOR (vApp tb T T' v u H) k
def kCopy (tb:TB) (ts:List TypeId) (x y:Operand):KT R:=fun σ H k=>ob (nth ts 0) fun T=>ob (gev σ x) fun v=>ob (gev σ y) fun u=>kOR (vCopy tb T v u H) k
def kCap (tb:TB) (ts:List TypeId) (x:Operand):KT R:=fun σ H k=>ob (nth ts 0) fun T=>ob (gev σ x) fun v=>ob (vCap tb T v) fun g=>k g H
def kLen (tb:TB) (ts:List TypeId) (x:Operand):KT R:=fun σ H k=>ob (nth ts 0) fun T=>ob (gev σ x) fun v=>ob (vLen tb T v) fun g=>k g H
def kBuB (tb:TB) (xs:Array Operand) (ts:Array TypeId):Builtin->KT R
 | .len=>kArg1 xs.toList (kLen tb ts.toList)
 | .max=>kArg2 xs.toList fun x y=>k2 x y vMax
 | .min=>kArg2 xs.toList fun x y=>k2 x y vMin
 | .append=>kArg2 xs.toList (kApp tb ts.toList)
 | .copy=>kArg2 xs.toList (kCopy tb ts.toList)
 | .cap=>kArg1 xs.toList (kCap tb ts.toList)
 |_=>fun _ _ _=>none
abbrev CH:=Nat->List GV->GH->OR
def kCallV (ih:CH) (xs:Array Operand) (f:Operand):KT R:=fun σ H k=>ob (gev σ f) fun v=>ob v.asF fun g=>ob (gevs σ xs.toList) fun us=>kOR (ih g.1 (g.2.1++us++g.2.2) H) k
def kCall (tb:TB) (ih:CH) (c:Call):KT R:=Callee.casesOn (motive:=fun _=>KT R) c.callee (kCallV ih c.args) (fun _ _ _ _ _=>none) (kBuB tb c.args c.argTypes)
end
def gop {R:Type} (tb:TB) (ih:CH) (o:Op):KT R:=Op.casesOn (motive:=fun _=>KT R) o (fun a0=>kMove a0) (fun a0=>kMove a0) (fun a0 a1 a2=>k3 a0 a1 a2 vPick) (fun a0=>kAlloc tb a0) (fun _ a1=>kBox a1) (fun a0 a1=>kBuild tb a0 a1.toList) (fun a0 a1 a2=>kBuildS tb a0 a1 a2.toList) (fun _ _ _ _=>fun _ _ _=>none) (fun a0 a1=>kLoad tb a0 a1) (fun a0 a1 a2=>kStore tb a0 a1 a2) (fun _=>fun _ _ _=>none) (fun _=>fun _ _ _=>none) (fun a0=>k1 a0 GV.nilck) (fun a0 a1 a2 a3 _=>k2 a2 a3 (vBin tb a0 a1)) (fun a0 _ a2=>k1 a2 (vUn a0)) (fun a0 a1 a2=>k1 a2 (vConv tb a0 a1)) (fun _ _=>fun _ _ _=>none) (fun _ _=>fun _ _ _=>none) (fun a0 a1 a2=>kFn a0 a1 a2) (fun _ a1=>kMakeMap a1) (fun _ _=>fun _ _ _=>none) (fun a0 a1 a2=>kMake tb a0 a1 a2) (fun a0 a1 a2 a3 a4=>kSlice tb a0 a1 a2 a3 a4) (fun a0 a1 a2=>k1 a1 (vField tb a0 a2)) (fun a0 a1 a2=>k1 a1 (vPart tb a0 a2)) (fun a0 a1 a2=>k2 a1 a2 (vIndex tb a0)) (fun a0 a1 a2=>k2 a1 a2 (vAt tb a0)) (fun a0 a1 a2 a3=>kLook tb a0 a1 a2 a3) (fun a0 a1 a2 a3=>kMapUp tb a0 a1 a2 a3) (fun _ _ _=>fun _ _ _=>none) (fun _ _ _ _=>fun _ _ _=>none) (fun _ _=>fun _ _ _=>none) (fun _ _=>fun _ _ _=>none) (fun _=>fun _ _ _=>none) (fun _ _ _ _=>fun _ _ _=>none) (fun a0 a1=>k1 a0 (vExt a1)) (fun a0=>kCall tb ih a0) (fun _=>fun _ _ _=>none) (fun _=>fun _ _ _=>none) (fun _=>fun _ _ _=>none) (fun _ _=>fun _ _ _=>none) (fun _ _ _=>fun _ _ _=>none) (fun _ _=>fun _ _ _=>none)

def useX (x:Operand):Nat:=Operand.casesOn (motive:=fun _=>Nat) x (fun t=>Nat.shiftLeft 1 t) (fun _=>0) (fun _=>0) (fun _=>0)
def useOp (all:List Oper) (o:Oper):Nat:=Nat.lor (o.op.operands.toList.foldl (fun m x=>Nat.lor m (useX x)) 0) (match o.guard with
 |none=>0
 |some g=>match nth all g.1 with
  |some oj=>(match oj.dst with|some d=>Nat.shiftLeft 1 d|none=>0)
  |none=>0)
def mdel (m:Nat) (d:Option Nat):Nat:=match d with
 |none=>m
 |some d=>bif Nat.testBit m d then Nat.sub m (Nat.shiftLeft 1 d)else m
def liveOps (all:List Oper) (l:List Oper) (m:Nat):Nat:=l.foldr (fun o m=>Nat.lor (mdel m o.dst) (useOp all o)) m
structure Cx where
 res:List ResultVar
 retm:Nat
 env:List (Nat×Nat)
def envGet (e:List (Nat×Nat)) (id:Nat):Nat:=List.rec (motive:=fun _=>Nat) 0 (fun p _ ih=>bif Nat.beq p.1 id then p.2 else ih) e
def liveC (c:Code) (retm:Nat):Nat->List (Nat×Nat)->Nat:=Code.rec (motive:=fun _=>Nat->List (Nat×Nat)->Nat)
 (fun m _=>m) (fun _ ops _ m _=>liveOps ops.toList ops.toList m) (fun _ _ la lb m e=>la (lb m e) e) (fun x _ _ la lb m e=>Nat.lor (useX x) (Nat.lor (la m e) (lb m e))) (fun id _ lb m e=>lb m ((id,m)::e))
 (fun _ lb _ e=>Nat.lor (lb 0 e) (lb (lb 0 e) e)) (fun _ _ _ _ _ _ _ _=>0) (fun id _ e=>envGet e id) (fun _ _ _ _=>0) (fun _ _ _=>0) (fun _ _ _=>0) (fun _ _=>retm) (fun _ _ _=>0) c
def live (c:Code) (m:Nat) (cx:Cx):Nat:=liveC c cx.retm m cx.env
def keysN (f m:Nat):Nat->List Nat:=Nat.rec (motive:=fun _=>Nat->List Nat) (fun _=>[]) (fun _ ih i=>bif Nat.testBit m i then i::ih (Nat.succ i)else ih (Nat.succ i)) f
def keysOf (m:Nat):List Nat:=keysN (Nat.succ (Nat.log2 m)) m 0
def packL (σ:GF) (ks:List Nat):List GV:=List.rec (motive:=fun _=>List GV) [] (fun k _ ih=>Option.casesOn (motive:=fun _=>GV) (glk σ k) .bad (fun v=>v)::ih) ks
def unpackL {R:Type} (ks:List Nat):List GV->(GF->Option R)->Option R:=List.rec (motive:=fun _=>List GV->(GF->Option R)->Option R) (fun vs k=>List.casesOn (motive:=fun _=>Option R) vs (k []) fun _ _=>none) (fun key _ ih vs k=>List.casesOn (motive:=fun _=>Option R) vs none fun v r=>ih r fun σ=>k ((key,v)::σ)) ks

inductive Ex where
 |normal
 |exit (id:Nat)
 |ret
inductive Task where
 |fn (f:Nat)
 |loop (b:Code) (cx:Cx)
structure GS where
 σ:GF
 H:GH
structure Out where
 e:Ex
 vs:List GV
 H:GH
abbrev RS:=Option Out
abbrev QH0:=List GV->GH->RS
abbrev QH:=Nat->List GV->GH->RS
abbrev IH:=Task->List GV->GH->RS
def resv (tb:TB) (s:GS) (r:ResultVar):Option GV:=ResultVar.casesOn (motive:=fun _=>Option GV) r (fun t=>glk s.σ t) fun a T=>ob (glk s.σ a) fun v=>vLoad tb T v s.H
def resvs (tb:TB) (s:GS) (l:List ResultVar):Option (List GV):=List.rec (motive:=fun _=>Option (List GV)) (some []) (fun r _ ih=>ob (resv tb s r) fun v=>ob ih fun vs=>some (v::vs)) l
def resMask (l:List ResultVar):Nat:=List.rec (motive:=fun _=>Nat) 0 (fun r _ ih=>Nat.lor (ResultVar.casesOn (motive:=fun _=>Nat) r (fun t=>Nat.shiftLeft 1 t) (fun a _=>Nat.shiftLeft 1 a)) ih) l
def pack (vs:List GV):GV:=List.casesOn (motive:=fun _=>GV) vs (.tup []) (fun v r=>List.casesOn (motive:=fun _=>GV) r v (fun _ _=> .tup vs))
def putD (d:Option Nat) (v:GV) (σ:GF):GF:=Option.casesOn (motive:=fun _=>GF) d σ fun d=>(d,v)::σ
def retN (ks:List Nat) (s:GS):RS:=some ⟨.normal,packL s.σ ks,s.H⟩
def retR (tb:TB) (cx:Cx) (s:GS):RS:=ob (resvs tb s cx.res) fun vs=>some ⟨.ret,vs,s.H⟩
def joinN (ks:List Nat) (k:GS->RS) (r:RS):RS:=ob r fun o=>Ex.casesOn (motive:=fun _=>RS) o.e (unpackL ks o.vs fun σ=>k ⟨σ,o.H⟩) (fun _=>some o) (some o)
def nB (id:Nat) (r:RS):RS:=ob r fun o=>Ex.casesOn (motive:=fun _=>RS) o.e (some o) (fun i=>Bool.casesOn (motive:=fun _=>RS) (Nat.beq i id) (some o) (some ⟨.normal,o.vs,o.H⟩)) (some o)
def orK (g:GV) (H:GH):OR:=some (g,H)
def opK (d:Option Nat) (s:GS) (k:GS->RS) (g:GV) (H:GH):RS:=k ⟨putD d g s.σ,H⟩
def evG (tb:TB) (ih:CH) (o:Oper) (s:GS) (b:Bool) (v:GV):OR:=GV.casesOn (motive_1:=fun _=>OR) v (fun _ _=>none) (fun q=>Bool.casesOn (motive:=fun _=>OR) (eqB q b) (some (.un,s.H)) (gop tb ih o.op s.σ s.H orK)) (fun _ _=>none) (fun _ _=>none) none (fun _ _ _ _=>none) none (fun _=>none) (fun _ _ _=>none) none none (fun _=>none) (fun _=>none) (some (.un,s.H)) none (fun _=>none)
def evOp (tb:TB) (ih:CH) (all:List Oper) (o:Oper) (k:GS->RS) (s:GS):RS:=Option.casesOn (motive:=fun _=>RS) o.guard (gop tb ih o.op s.σ s.H (opK o.dst s k)) fun g=>ob (nth all g.1) fun oj=>ob oj.dst fun dj=>ob (glk s.σ dj) fun v=>kOR (evG tb ih o s g.2 v) (opK o.dst s k)
def evOps (tb:TB) (ih:CH) (all:List Oper) (k:GS->RS) (l:List Oper):GS->RS:=List.rec (motive:=fun _=>GS->RS) k (fun o _ ihl s=>evOp tb ih all o ihl s) l

def isLoad:Op->Bool
 | .load .. => true
 |_=>false
def isLook:Op->Bool
 | .lookup .. => true
 |_=>false
def ldH (σ:GF):Op->Option Nat
 | .load _ x=>ob (some x) fun x=>ob (gev σ x) fun v=>ob v.asP fun p=>some p.1
 |_=>none
def vck {α:Type} (H:GH) (h v:Nat) (k:Option α):Option α:=ob (H.ver h) fun u=>Bool.casesOn (motive:=fun _=>Option α) (Nat.beq u v) none k
def pck (H:GH) (e:Option (Nat×Nat)) (k:Option Unit):Option Unit:=Option.casesOn (motive:=fun _=>Option Unit) e k fun p=>vck H p.1 p.2 k
def ckLoud (m:List Nat) (i:Nat) (H:GH) (pr:List (Nat×Option (Nat×Nat))):Option Unit:=List.rec (motive:=fun _=>Option Unit) (some ()) (fun p _ ih=>Bool.casesOn (motive:=fun _=>Option Unit) (before m i p.1) (pck H p.2 ih) ih) pr
def ckRead (m:List Nat) (i h v:Nat) (hs:List (Nat×GH)):Option (Option (Nat×Nat)):=List.rec (motive:=fun _=>Option (Option (Nat×Nat))) (some (some (h,v))) (fun q _ ih=>Bool.casesOn (motive:=fun _=>Option (Option (Nat×Nat))) (before m i q.1) (vck q.2 h v ih) ih) hs
def ldV (m:List Nat) (i:Nat) (hs:List (Nat×GH)) (H:GH) (l:Option Nat):Option (Option (Nat×Nat)):=Option.casesOn (motive:=fun _=>Option (Option (Nat×Nat))) l (some none) fun h=>ob (H.ver h) fun v=>ckRead m i h v hs
abbrev WT:=Nat->List (Nat×Option (Nat×Nat))->List (Nat×GH)->GS->RS
def evOpW (tb:TB) (ch:CH) (all:List Oper) (m:List Nat) (o:Oper) (K:WT):WT:=fun i pr hs s=>
 Bool.casesOn (motive:=fun _=>RS) (loudOp o.op)
  (Bool.casesOn (motive:=fun _=>RS) (isLoad o.op) (evOp tb ch all o (K (Nat.succ i) pr hs) s)
   (evOp tb ch all o (fun s'=>ob (ldV m i hs s.H (ldH s.σ o.op)) fun e=>K (Nat.succ i) ((i,e)::pr) hs s') s))
  (evOp tb ch all o (fun s'=>ob (ckLoud m i s'.H pr) fun _=>K (Nat.succ i) pr ((i,s.H)::hs) s') s)
def evW (tb:TB) (ch:CH) (all:List Oper) (m:List Nat) (k:GS->RS) (l:List Oper):WT:=List.rec (motive:=fun _=>WT) (fun _ _ _ s=>k s) (fun o _ ih=>evOpW tb ch all m o ih) l
def ordered (l:List Oper) (p:Op->Bool):Bool:=(List.range l.length).all fun i=>match l[i]? with
 |none=>true
 |some o=> !p o.op||(List.range l.length).all fun j=>match l[j]? with
  |none=>true
  |some oj=> !loudOp oj.op||before (masks l) i j||before (masks l) j i
def wild (dr:Bool) (l:List Oper):Bool:=Bool.casesOn (motive:=fun _=>Bool) dr false (!ordered l isLoad)
def resOR (r:RS):OR:=ob r fun o=>Ex.casesOn (motive:=fun _=>OR) o.e none (fun _=>none) (some (pack o.vs,o.H))
structure GP where
 tab:TB
 cat:Nat
 ext:Nat->List GV->GH->Option (GV×GH)
 exn:Nat->List GV->Option GV
def z64:GV:= .int .i64 (.ofNat 0)
def callC (ih:CH) (us:List GV) (H:GH):OR:=List.casesOn (motive:=fun _=>OR) us none fun u r=>List.casesOn (motive:=fun _=>OR) r (ob u.asF fun g=>H.newK (.cells [z64]) fun h1 H1=>H1.newK (.cells [z64]) fun h2 H2=>ob (ih g.1 (g.2.1++g.2.2) H2) fun x=>ob (x.2.cells h1) fun c1=>ob (x.2.cells h2) fun c2=>
 bif Nat.beq c1.length 1 then(bif Nat.beq c2.length 1 then x.2.setK h1 (.cells [z64]) fun H3=>H3.setK h2 (.cells [z64]) fun H4=>H4.delK h1 fun H5=>H5.delK h2 fun H6=>some (.tup [z64,z64],H6)else none)else none) (fun _ _=>none)
def callB (ih:IH):CH:=fun f us H=>resOR (ih (.fn f) us H)
def callQ (G:GP) (q:QH):CH:=fun f us H=>Bool.casesOn (motive:=fun _=>OR) (Nat.beq f G.cat) (Option.casesOn (motive:=fun _=>OR) (G.ext f us H) (Option.casesOn (motive:=fun _=>OR) (G.exn f us) (resOR (q f us H)) fun g=>some (g,H)) fun r=>some r) (callC (fun f us H=>resOR (q f us H)) us H)
def callG (G:GP) (ih:IH):CH:=callQ G fun f us H=>ih (.fn f) us H
abbrev ET:=Nat->Cx->(GS->RS)->GS->RS
abbrev LH:=Code->Cx->QH0
def evC (tb:TB) (ch:CH) (lp:LH) (c:Code):ET:=Code.rec (motive:=fun _=>ET)
 (fun _ _ k s=>k s)
 (fun _ ops dr _ _ k s=>Bool.casesOn (motive:=fun _=>RS) (wild dr ops.toList) (evOps tb ch ops.toList k ops.toList s) (evW tb ch ops.toList (masks ops.toList) k ops.toList 0 [] [] s))
 (fun _ b ea eb m cx k s=>ea (live b m cx) cx (eb m cx k) s)
 (fun x _ _ ea eb m cx k s=>ob (gev s.σ x) fun v=>ob v.asB fun q=>joinN (keysOf m) k (Bool.casesOn (motive:=fun _=>RS) q (eb m cx (retN (keysOf m)) s) (ea m cx (retN (keysOf m)) s)))
 (fun id _ eb m cx k s=>joinN (keysOf m) k (nB id (eb m ⟨cx.res,cx.retm,(id,m)::cx.env⟩ (retN (keysOf m)) s)))
 (fun b _ _ cx _ s=>lp b cx (packL s.σ (keysOf (live (.loop b) 0 cx))) s.H)
 (fun _ _ _ _ _ _ _ _ _ _=>none)
 (fun id _ cx _ s=>some ⟨.exit id,packL s.σ (keysOf (envGet cx.env id)),s.H⟩)
 (fun _ _ _ _ _ _=>none) (fun _ _ _ _ _=>none) (fun _ _ _ _ _=>none)
 (fun _ cx _ s=>retR tb cx s)
 (fun _ _ _ _ _=>none) c
def evF (tb:TB) (ch:CH) (lp:LH) (fn:Func) (us:List GV) (H:GH):RS:=ob fn.body fun body=>unpackL (List.range (Nat.add fn.params.size fn.nfree)) us fun σ=>evC tb ch lp body (resMask fn.results.toList) ⟨fn.results.toList,resMask fn.results.toList,[]⟩ (retR tb ⟨fn.results.toList,resMask fn.results.toList,[]⟩) ⟨σ,H⟩
def evL (tb:TB) (ch:CH) (lp:LH) (b:Code) (cx:Cx) (us:List GV) (H:GH):RS:=unpackL (keysOf (live (.loop b) 0 cx)) us fun σ=>ob (evC tb ch lp b (live (.loop b) 0 cx) cx (retN (keysOf (live (.loop b) 0 cx))) ⟨σ,H⟩) fun o=>Ex.casesOn (motive:=fun _=>RS) o.e (lp b cx o.vs o.H) (fun _=>some o) (some o)
abbrev FT:=Nat->Option Func
def step (G:GP) (Fs:FT) (ih:IH) (t:Task):List GV->GH->RS:=Task.casesOn (motive:=fun _=>List GV->GH->RS) t (fun f us H=>ob (Fs f) fun fn=>evF G.tab (callG G ih) (fun b cx=>ih (.loop b cx)) fn us H) (evL G.tab (callG G ih) fun b cx=>ih (.loop b cx))
def run (G:GP) (Fs:FT) (fuel:Nat):IH:=Nat.rec (motive:=fun _=>IH) (fun _ _ _=>none) (fun _ ih=>step G Fs ih) fuel
def callF (G:GP) (Fs:FT) (fuel:Nat) (f:FuncId) (args:List GV) (H:GH):OR:=callG G (run G Fs fuel) f args H
def H0:GH:=⟨0,.lf⟩
end
end Go.Gx
end
section
namespace Go.Gx
open Go Go.Sx
section
variable {α β:Type}
theorem ob_some {o:Option α} {f:α->Option β} {r:β}:ob o f=some r↔∃x,o=some x∧f x=some r:=by
 cases o<;>simp[ob]
theorem bif_some {b:Bool} {x:Option α} {r:α}:(bif b then x else none)=some r↔b=true∧x=some r:=by
 cases b<;>simp
theorem bif_some' {b:Bool} {x:Option α} {r:α}:(bif b then none else x)=some r↔b=false∧x=some r:=by
 cases b<;>simp
theorem sn_eq (n:Nat) (f:Nat->α):sn n f=f n:=by cases n<;>rfl
theorem fi_eq (z:Int) (f:Int->α):fi z f=f z:=by cases z<;>simp[fi,sn_eq]
theorem nth_eq (l:List α):∀n,nth l n=l[n]?:=by
 induction l with
 |nil=>intro n;rfl
 |cons x l ih=>intro n;cases n with
  |zero=>rfl
  |succ n=>exact ih n
theorem lset_eq {v:α}:∀{l l':List α} {n:Nat},lset v l n=some l'->n<l.length∧l'=l.set n v:=by
 intro l
 induction l with
 |nil=>intro l' n h;cases h
 | cons x l ih => intro l' n h; cases n with
  |zero=>cases h;simp
  |succ n=>
   obtain⟨r,h1,h2⟩:=ob_some.1 (show ob (lset v l n) (fun r'=>some (x::r'))=some l' from h)
   obtain⟨h3,h4⟩:=ih h1
   cases h2;simp[h3,h4]
theorem tk_eq:∀{l r:List α} {n:Nat},tk l n=some r->n<=l.length∧r=l.take n:=by
 intro l
 induction l with
 |nil=>intro r n h;cases n with
  |zero=>cases h;simp
  |succ n=>cases h
 | cons x l ih => intro r n h; cases n with
  |zero=>cases h;simp
  |succ n=>
   obtain⟨q,h1,h2⟩:=ob_some.1 (show ob (tk l n) (fun r=>some (x::r))=some r from h)
   obtain⟨h3,h4⟩:=ih h1
   cases h2;simp[h3,h4]
theorem dp_eq:∀{l r:List α} {n:Nat},dp l n=some r->n<=l.length∧r=l.drop n:=by
 intro l
 induction l with
 |nil=>intro r n h;cases n with
  |zero=>cases h;simp
  |succ n=>cases h
 |cons x l ih=>intro r n h;cases n with
  |zero=>cases h;simp
  |succ n=>have:=ih (show dp l n=some r from h);simpa using this
theorem slc_eq {l r:List α} {o n:Nat} (h:slc l o n=some r):o+n<=l.length∧r=(l.drop o).take n:=by
 obtain⟨q,h1,h2⟩:=ob_some.1 h
 obtain⟨h3,rfl⟩:=dp_eq h1
 obtain⟨h4,rfl⟩:=tk_eq h2
 simp at h4
 exact⟨by omega,rfl⟩
def wr (vs:List α) (o:Nat) (cs:List α):List α:=cs.take o++vs++cs.drop (o+vs.length)
end
theorem gput_eq:∀{vs cs cs':List GV} {o:Nat},gput vs o cs=some cs'->(vs≠[]->o+vs.length<=cs.length)∧cs'.length=cs.length∧∀i,cs'[i]? = if o<=i∧i<o+vs.length then vs[i - o]? else cs[i]?:=by
 intro vs
 induction vs with
 |nil=>
  intro cs cs' o h
  cases h
  refine⟨fun h=>absurd rfl h,rfl,fun i=> ?_⟩
  rw[if_neg (by simp)]
 | cons v vs ih =>
  intro cs cs' o h
  obtain⟨c1,h1,h2⟩:=ob_some.1 (show ob (lset v cs o) (fun cs'=>sn (Nat.succ o) fun o'=>gput vs o' cs')=some cs' from h)
  rw[sn_eq]at h2
  obtain⟨h3,rfl⟩:=lset_eq h1
  obtain⟨h4,h5,h6⟩:=ih h2
  simp only[List.length_set,Nat.succ_eq_add_one]at h4 h5 h6
  refine⟨fun _=> ?_,h5,fun i=> ?_⟩
  ·cases vs with
   |nil=>simp;omega
   |cons y ys=>have:=h4 (by simp);simp at this ⊢;omega
  rw[h6 i]
  by_cases e:i=o
  ·subst e
   rw[if_neg (by omega),if_pos (by simp),List.getElem?_set_self h3];simp
  ·by_cases e2:o+1<=i∧i<o+1+vs.length
   ·rw[if_pos e2,if_pos (by simp;omega)]
    have:i - o=(i - (o+1))+1:=by omega
    rw[this,List.getElem?_cons_succ]
   ·rw[if_neg e2,if_neg (by simp;omega),List.getElem?_set_ne (Ne.symm e)]
theorem Tr.get_setN {α:Type} (x:Option α):∀(f n m:Nat),n<f->(Tr.setN x f n).get m=if m=n then x else none:=by
 intro f
 induction f with
 |zero=>intro n m h;omega
 | succ f ih =>
  intro n m h
  show Tr.get (bif Nat.beq n 0 then .nd x .lf .lf else bif Nat.beq (Nat.mod n 2) 1 then .nd none (Tr.setN x f (Nat.div n 2)) .lf else .nd none .lf (Tr.setN x f (Nat.sub (Nat.div n 2) 1))) m=_
  have hg:∀(a:Option α) (l r:Tr α),Tr.get (.nd a l r) m=if m=0 then a else if m%2=1 then l.get (m / 2)else r.get (m / 2 - 1):=fun a l r=>by
   show Bool.casesOn (motive:=fun _=>Option α) (Nat.beq m 0) (Bool.casesOn (motive:=fun _=>Option α) (Nat.beq (Nat.mod m 2) 1) (r.get (Nat.sub (Nat.div m 2) 1)) (l.get (Nat.div m 2))) a=_
   by_cases h0:m=0
   ·subst h0;rfl
   ·rw[if_neg h0,beq_ne h0]
    by_cases h1:m%2=1
    ·rw[if_pos h1]
     have:Nat.beq (Nat.mod m 2) 1=true:=by rw[show Nat.mod m 2=1 from h1];rfl
     rw[this];rfl
    ·rw[if_neg h1]
     have:Nat.beq (Nat.mod m 2) 1=false:=beq_ne h1
     rw[this];rfl
  have hlf:∀k,(Tr.lf:Tr α).get k=none:=fun _=>rfl
  have hd:Nat.div n 2=n / 2:=rfl
  have hs:Nat.sub (Nat.div n 2) 1=n / 2 - 1:=rfl
  by_cases h0:n=0
  ·subst h0
   show Tr.get (.nd x .lf .lf) m=_
   simp only[hg,hlf]
   by_cases hm:m=0<;>simp[hm]
  ·rw[beq_ne h0]
   by_cases h1:n%2=1
   ·have:Nat.beq (Nat.mod n 2) 1=true:=by rw[show Nat.mod n 2=1 from h1];rfl
    simp only[this,cond_true,cond_false,hg,hlf,hd]
    rw[ih _ _ (by omega)]
    by_cases hm:m=0
    ·rw[if_pos hm,if_neg (by omega)]
    ·rw[if_neg hm]
     by_cases h2:m%2=1
     ·rw[if_pos h2];by_cases h3:m=n
      ·subst h3;simp
      ·rw[if_neg h3,if_neg (by omega)]
     ·rw[if_neg h2,if_neg (by intro e;subst e;exact h2 h1)]
   ·have:Nat.beq (Nat.mod n 2) 1=false:=beq_ne h1
    simp only[this,cond_true,cond_false,hg,hlf,hs]
    rw[ih _ _ (by omega)]
    by_cases hm:m=0
    ·rw[if_pos hm,if_neg (by omega)]
    ·rw[if_neg hm]
     by_cases h2:m%2=1
     ·rw[if_pos h2,if_neg (by intro e;subst e;exact h1 h2)]
     ·rw[if_neg h2];by_cases h3:m=n
      ·subst h3;simp
      ·rw[if_neg h3,if_neg (by omega)]
theorem Tr.get_set {α:Type} (x:Option α):∀(t:Tr α) (n m:Nat),(t.set x n).get m=if m=n then x else t.get m:=by
 intro t
 induction t with
 |lf=>intro n m;exact Tr.get_setN x _ n m (Nat.lt_succ_self n)
 | nd a l r ihl ihr =>
  intro n m
  have hg:∀(a:Option α) (l r:Tr α),Tr.get (.nd a l r) m=if m=0 then a else if m%2=1 then l.get (m / 2)else r.get (m / 2 - 1):=fun a l r=>by
   show Bool.casesOn (motive:=fun _=>Option α) (Nat.beq m 0) (Bool.casesOn (motive:=fun _=>Option α) (Nat.beq (Nat.mod m 2) 1) (r.get (Nat.sub (Nat.div m 2) 1)) (l.get (Nat.div m 2))) a=_
   by_cases h0:m=0
   ·subst h0;rfl
   ·rw[if_neg h0,beq_ne h0]
    by_cases h1:m%2=1
    ·rw[if_pos h1]
     have:Nat.beq (Nat.mod m 2) 1=true:=by rw[show Nat.mod m 2=1 from h1];rfl
     rw[this];rfl
    ·rw[if_neg h1]
     have:Nat.beq (Nat.mod m 2) 1=false:=beq_ne h1
     rw[this];rfl
  show Tr.get (Bool.casesOn (motive:=fun _=>Tr α) (Nat.beq n 0) (Bool.casesOn (motive:=fun _=>Tr α) (Nat.beq (Nat.mod n 2) 1) (.nd a l (r.set x (Nat.sub (Nat.div n 2) 1))) (.nd a (l.set x (Nat.div n 2)) r)) (.nd x l r)) m=_
  have hd:Nat.div n 2=n / 2:=rfl
  have hs:Nat.sub (Nat.div n 2) 1=n / 2 - 1:=rfl
  by_cases h0:n=0
  ·subst h0
   show Tr.get (.nd x l r) m=_
   rw[hg,hg];by_cases hm:m=0<;>simp[hm]
  ·rw[beq_ne h0]
   by_cases h1:n%2=1
   ·have:Nat.beq (Nat.mod n 2) 1=true:=by rw[show Nat.mod n 2=1 from h1];rfl
    rw[this]
    show Tr.get (.nd a (l.set x (Nat.div n 2)) r) m=_
    rw[hg,hg,ihl,hd]
    by_cases hm:m=0
    ·rw[if_pos hm,if_pos hm,if_neg (by omega)]
    ·rw[if_neg hm,if_neg hm]
     by_cases h2:m%2=1
     ·rw[if_pos h2,if_pos h2];by_cases h3:m=n
      ·subst h3;simp
      ·rw[if_neg h3,if_neg (by omega)]
     ·rw[if_neg h2,if_neg h2,if_neg (by intro e;subst e;exact h2 h1)]
   ·have:Nat.beq (Nat.mod n 2) 1=false:=beq_ne h1
    rw[this]
    show Tr.get (.nd a l (r.set x (Nat.sub (Nat.div n 2) 1))) m=_
    rw[hg,hg,ihr,hs]
    by_cases hm:m=0
    ·rw[if_pos hm,if_pos hm,if_neg (by omega)]
    ·rw[if_neg hm,if_neg hm]
     by_cases h2:m%2=1
     ·rw[if_pos h2,if_pos h2,if_neg (by intro e;subst e;exact h1 h2)]
     ·rw[if_neg h2,if_neg h2];by_cases h3:m=n
      ·subst h3;simp
      ·rw[if_neg h3,if_neg (by omega)]
theorem GH.get_set (H:GH) (h:Nat) (o:GO) (k:Nat):(H.set h o).get k=if k=h then some o else H.get k:=by
 unfold GH.get GH.set
 rw[Tr.get_set]
 by_cases e:k=h<;>simp[e,ob]
theorem GH.ver_set (H:GH) (h:Nat) (o:GO) (k:Nat):(H.set h o).ver k=if k=h then some H.n else H.ver k:=by
 unfold GH.ver GH.set
 rw[Tr.get_set]
 by_cases e:k=h<;>simp[e,ob]
theorem GH.get_del (H:GH) (h k:Nat):(H.del h).get k=if k=h then none else H.get k:=by
 unfold GH.get GH.del
 rw[Tr.get_set]
 by_cases e:k=h<;>simp[e,ob]
theorem GH.ver_del (H:GH) (h k:Nat):(H.del h).ver k=if k=h then none else H.ver k:=by
 unfold GH.ver GH.del
 rw[Tr.get_set]
 by_cases e:k=h<;>simp[e,ob]
noncomputable def GH.new (H:GH) (o:GO):GH:=⟨H.n+1,H.t.set (some (H.n,o)) H.n⟩
theorem GH.get_new (H:GH) (o:GO) (k:Nat):(H.new o).get k=if k=H.n then some o else H.get k:=by
 unfold GH.get GH.new
 rw[Tr.get_set]
 by_cases e:k=H.n<;>simp[e,ob]
theorem GH.ver_new (H:GH) (o:GO) (k:Nat):(H.new o).ver k=if k=H.n then some H.n else H.ver k:=by
 unfold GH.ver GH.new
 rw[Tr.get_set]
 by_cases e:k=H.n<;>simp[e,ob]
theorem Tr.setNK_eq {α R:Type} (x:Option α):∀(f n:Nat) (k:Tr α->R),Tr.setNK x f n k=k (Tr.setN x f n):=by
 intro f
 induction f with
 |zero=>intro n k;rfl
 |succ f ih=>
  intro n k
  show Bool.casesOn (motive:=fun _=>R) (Nat.beq n 0) (Bool.casesOn (motive:=fun _=>R) (Nat.beq (Nat.mod n 2) 1) (Tr.setNK x f (Nat.sub (Nat.div n 2) 1) fun t=>k (.nd none .lf t)) (Tr.setNK x f (Nat.div n 2) fun t=>k (.nd none t .lf))) (k (.nd x .lf .lf))=k (bif Nat.beq n 0 then .nd x .lf .lf else bif Nat.beq (Nat.mod n 2) 1 then .nd none (Tr.setN x f (Nat.div n 2)) .lf else .nd none .lf (Tr.setN x f (Nat.sub (Nat.div n 2) 1)))
  rw[ih,ih]
  cases Nat.beq n 0<;>cases Nat.beq (Nat.mod n 2) 1<;>rfl
theorem Tr.setK_eq {α R:Type} (x:Option α):∀(t:Tr α) (n:Nat) (k:Tr α->R),t.setK x n k=k (t.set x n):=by
 intro t
 induction t with
 |lf=>intro n k;exact Tr.setNK_eq x (Nat.succ n) n k
 |nd a l r ihl ihr=>
  intro n k
  show Bool.casesOn (motive:=fun _=>R) (Nat.beq n 0) (Bool.casesOn (motive:=fun _=>R) (Nat.beq (Nat.mod n 2) 1) (r.setK x (Nat.sub (Nat.div n 2) 1) fun t=>k (.nd a l t)) (l.setK x (Nat.div n 2) fun t=>k (.nd a t r))) (k (.nd x l r))=k (Bool.casesOn (motive:=fun _=>Tr α) (Nat.beq n 0) (Bool.casesOn (motive:=fun _=>Tr α) (Nat.beq (Nat.mod n 2) 1) (.nd a l (r.set x (Nat.sub (Nat.div n 2) 1))) (.nd a (l.set x (Nat.div n 2)) r)) (.nd x l r))
  rw[ihl,ihr]
  cases Nat.beq n 0<;>cases Nat.beq (Nat.mod n 2) 1<;>rfl
theorem GH.newK_eq {α:Type} (H:GH) (o:GO) (f:Nat->GH->α):H.newK o f=f H.n (H.new o):=by simp only[GH.newK,sn_eq,Tr.setK_eq];rfl
theorem GH.setK_eq {α:Type} (H:GH) (h:Nat) (o:GO) (f:GH->α):H.setK h o f=f (H.set h o):=by simp only[GH.setK,sn_eq,Tr.setK_eq];rfl
theorem GH.delK_eq {α:Type} (H:GH) (h:Nat) (f:GH->α):H.delK h f=f (H.del h):=by simp only[GH.delK,Tr.setK_eq];rfl
theorem lap_eq {R:Type} (a b:List GV):∀k:List GV->R,lap a b k=k (a++b):=by
 induction a with
 |nil=>intro k;rfl
 |cons x a ih=>intro k;exact ih _
theorem fc_eq {R:Type} (a:List GV):∀k:List GV->R,fc a k=k a:=by
 induction a with
 |nil=>intro k;rfl
 |cons x a ih=>intro k;exact ih _
theorem delSK_eq (H:GH) (v:GV) (f:GH->OR):delSK H v f=f (delS H v):=by
 unfold delSK delS
 cases v.asS with
 |none=>rfl
 |some s=>exact GH.delK_eq H s.1 f
theorem GH.cells_eq {H:GH} {h:Nat} {cs:List GV}:H.cells h=some cs↔H.get h=some (.cells cs):=by
 unfold GH.cells
 rw[ob_some]
 constructor
 ·rintro⟨o,h1,h2⟩;cases o with
  |cells c=>cases h2;exact h1
  |mp e=>cases h2
 ·intro h;exact⟨_,h,rfl⟩
theorem GO.asM_eq {o:GO} {es:List (GV×GV)} (h:o.asM=some es):o = .mp es:=by
 cases o with
 |cells c=>cases h
 |mp e=>cases h;rfl
theorem glk_cons (k:Nat) (v:GV) (σ:GF) (t:Nat):glk ((k,v)::σ) t=if t=k then some v else glk σ t:=by
 show Bool.casesOn (motive:=fun _=>Option GV) (Nat.beq t k) (glk σ t) (some v)=_
 by_cases e:t=k
 ·subst e;simp
 ·rw[beq_ne e,if_neg e]
section
variable {v:GV}
theorem asI_eq {p:IntKind×Int} (h:v.asI=some p):v = .int p.1 p.2:=by cases v<;>cases h;rfl
theorem asB_eq {p:Bool} (h:v.asB=some p):v = .bool p:=by cases v<;>cases h;rfl
theorem asP_eq {p:Nat×Nat} (h:v.asP=some p):v = .ptr p.1 p.2:=by cases v<;>cases h;rfl
theorem asS_eq {p:Nat×Nat×Nat×Nat} (h:v.asS=some p):v = .sl p.1 p.2.1 p.2.2.1 p.2.2.2:=by cases v<;>cases h;rfl
theorem asF_eq {p:Nat×List GV×List GV} (h:v.asF=some p):v = .fn p.1 p.2.1 p.2.2:=by cases v<;>cases h;rfl
theorem asT_eq {p:List GV} (h:v.asT=some p):v = .tup p:=by cases v<;>cases h;rfl
theorem asA_eq {p:List GV} (h:v.asA=some p):v = .agg p:=by cases v<;>cases h;rfl
theorem asStr_eq {p:Nat×Nat} (h:v.asStr=some p):v = .str p.1 p.2:=by cases v<;>cases h;rfl
theorem asM_eq {p:Nat} (h:v.asM=some p):v = .map p:=by cases v<;>cases h;rfl
theorem isSnil_eq (h:v.isSnil=true):v = .snil:=by cases v<;>first|rfl|cases h
end
section
variable {d:TypeDesc}
theorem tdS_eq {e:TypeId} (h:tdS d=some e):d = .slice e:=by cases d<;>cases h;rfl
theorem tdA_eq {e:Nat×TypeId} (h:tdA d=some e):d = .array e.1 e.2:=by cases d<;>cases h;rfl
theorem tdF_eq {e:Array Field} (h:tdF d=some e):d = .struct e:=by cases d<;>cases h;rfl
theorem tdI_eq {e:IntKind} (h:tdI d=some e):d = .int e:=by cases d<;>cases h;rfl
theorem tdM_eq {e:TypeId×TypeId} (h:tdM d=some e):d = .map e.1 e.2:=by cases d<;>cases h;rfl
theorem tdStr_eq (h:tdStr d=true):d = .string:=by cases d<;>first|rfl|cases h
theorem tdB_eq (h:tdB d=true):d = .bool:=by cases d<;>first|rfl|cases h
end
theorem asN_eq {a:Int} {n:Nat} (h:asN a=some n):a=n:=by cases a<;>cases h;rfl
theorem bdec {b:Bool} {p:Prop} [Decidable p] (h:b=true↔p):b=decide p:=by
 cases b
 ·exact(decide_eq_false fun hp=>by cases h.2 hp).symm
 ·exact(decide_eq_true (h.1 rfl)).symm
theorem ltI_eq (a b:Int):ltI a b=decide (a<b):=by
  refine bdec ?_
  cases a with
  | ofNat a => cases b with
    |ofNat b=>show Nat.blt a b=true↔_;rw[Nat.blt_eq];simp
    | negSucc b => constructor
                   · intro h;cases h
                   · intro h;simp at h;omega
  | negSucc a => cases b with
    | ofNat b => constructor
                 · intro _;have:=Int.negSucc_lt_zero a;simp;omega
                 · intro _;rfl
    |negSucc b=>show Nat.blt b a=true↔_;rw[Nat.blt_eq];omega
theorem eqI_eq (a b:Int):eqI a b=decide (a=b):=by
  refine bdec ?_
  cases a with
  | ofNat a => cases b with
    |ofNat b=>show Nat.beq a b=true↔_;simp;omega
    | negSucc b => constructor
                   · intro h;cases h
                   · intro h;cases h
  | negSucc a => cases b with
    | ofNat b => constructor
                 · intro h;cases h
                 · intro h;cases h
    |negSucc b=>show Nat.beq a b=true↔_;simp
theorem eqB_eq (a b:Bool):eqB a b=(a==b):=by cases a<;>cases b<;>rfl
theorem eqK_eq {a b:IntKind} (h:eqK a b=true):a=b:=of_decide_eq_true h
theorem fb_eq (b:Bool):fb b=some (.bool b):=by cases b<;>rfl
end Go.Gx
end
section
namespace Go.Gx
open Go Go.Sx Go.RowKit
structure Loc where
 b:Nat
 off:Nat
 size:Nat
 x:Obj
 /-- what the evaluator wrote -/
 o:GO
abbrev Rho:=Nat->Option Loc
def Rho.le (ρ ρ':Rho):Prop:=∀h l,ρ h=some l->ρ' h=some l
theorem Rho.le_refl (ρ:Rho):ρ.le ρ:=fun _ _ h=>h
theorem Rho.le_trans {a b c:Rho} (h:a.le b) (k:b.le c):a.le c:=fun _ _ x=>k _ _ (h _ _ x)
inductive Rl (ρ:Rho):GV->Value->Prop
 |int (k n):Rl ρ (.int k n) (.int k n)
 |bool (b):Rl ρ (.bool b) (.bool b)
 |str (s:ByteArray):Rl ρ (.str (encB (bytesOfV s)) (bytesOfV s).length) (.string s)
 |ptr {h l} (off) (hl:ρ h=some l):Rl ρ (.ptr h off) (.pointer (some ⟨l.b,l.off+off,none⟩))
 |pnil:Rl ρ .pnil (.pointer none)
 |sl {h l off len sz cap} {A:Addr} (hl:ρ h=some l) (hc:len<=cap) (ha:cap=0∨(A=⟨l.b,l.off+off,none⟩∧l.off+off+cap*sz<=l.size)):Rl ρ (.sl h off len sz) (.slice (some A) len cap)
 |snil:Rl ρ .snil (.slice none 0 0)
 |map {h l} (hl:ρ h=some l):Rl ρ (.map h) (.map (some l.b))
 | fn {us vs : List GV} {us' vs' : List Value} (f) (h1 : us.length = us'.length) (h2 : ∀ (i : Nat) g v, us[i]? = some g → us'[i]? = some v → Rl ρ g v) (h3 : vs.length = vs'.length) (h4 : ∀ (i : Nat) g v, vs[i]? = some g → vs'[i]? = some v → Rl ρ g v) :
   Rl ρ (.fn f us vs) (.func (.func f) us'.toArray vs'.toArray)
 |fnil:Rl ρ .fnil .nilFunc
 |inil:Rl ρ .inil .nilIface
 |agg {cs:List GV} {vs:List Value} (h1:cs.length=vs.length) (h2:∀(i:Nat) g v,cs[i]? = some g->vs[i]? = some v->Rl ρ g v) (h3:∀v∈vs,one v=true):Rl ρ (.agg cs) (.agg vs.toArray)
 |tup {cs:List GV} {vs:List Value} (h1:cs.length=vs.length) (h2:∀(i:Nat) g v,cs[i]? = some g->vs[i]? = some v->Rl ρ g v):Rl ρ (.tup cs) (.tuple vs.toArray)
 |un:Rl ρ .un undef
 |bad (v):Rl ρ .bad v
 |opn {h l} (v) (hl:ρ h=some l) (hx:l.x = .cells #[v] 0 (0,0)):Rl ρ (.opn h) v
theorem Rl.le {ρ ρ':Rho} (hl:ρ.le ρ') {g:GV} {v:Value} (h:Rl ρ g v):Rl ρ' g v:=by
 induction h with
 |int k n=>exact .int k n
 |bool b=>exact .bool b
 |str s=>exact .str s
 |ptr off h=>exact .ptr off (hl _ _ h)
 |pnil=>exact .pnil
 |sl h hc ha=>exact .sl (hl _ _ h) hc ha
 |snil=>exact .snil
 |map h=>exact .map (hl _ _ h)
 |fn f h1 h2 h3 h4 ih2 ih4=>exact .fn f h1 ih2 h3 ih4
 |fnil=>exact .fnil
 |inil=>exact .inil
 |agg h1 h2 h3 ih=>exact .agg h1 ih h3
 |tup h1 h2 ih=>exact .tup h1 ih
 |un=>exact .un
 |bad v=>exact .bad v
 |opn v h hx=>exact .opn v (hl _ _ h) hx
structure RlL (ρ:Rho) (gs:List GV) (vs:List Value):Prop where
 len:gs.length=vs.length
 at':∀(i:Nat) g v,gs[i]? = some g->vs[i]? = some v->Rl ρ g v
theorem RlL.nil {ρ:Rho}:RlL ρ [] []:=⟨rfl,fun i g v h=>by simp at h⟩
theorem RlL.cons {ρ:Rho} {g:GV} {v:Value} {gs:List GV} {vs:List Value} (h:Rl ρ g v) (r:RlL ρ gs vs):RlL ρ (g::gs) (v::vs):=⟨by simp[r.len],fun i a b ha hb=>by
 cases i with
 |zero=>simp at ha hb;subst ha hb;exact h
 |succ i=>simp at ha hb;exact r.at' i a b ha hb⟩
theorem RlL.of_cons {ρ:Rho} {g:GV} {gs:List GV} {vs:List Value} (h:RlL ρ (g::gs) vs):∃v vs',vs=v::vs'∧Rl ρ g v∧RlL ρ gs vs':=by
 cases vs with
 |nil=>have:=h.len;simp at this
 |cons v vs=>exact⟨v,vs,rfl,h.at' 0 _ _ rfl rfl,by have:=h.len;simpa using this,fun i a b ha hb=>h.at' (i+1) a b (by simpa using ha) (by simpa using hb)⟩
theorem RlL.of_nil {ρ:Rho} {vs:List Value} (h:RlL ρ [] vs):vs=[]:=List.eq_nil_of_length_eq_zero h.len.symm
theorem RlL.le {ρ ρ':Rho} (hl:ρ.le ρ') {gs:List GV} {vs:List Value} (h:RlL ρ gs vs):RlL ρ' gs vs:=⟨h.len,fun i g v h1 h2=>(h.at' i g v h1 h2).le hl⟩
theorem RlL.append {ρ:Rho} {gs gs':List GV} {vs vs':List Value} (h:RlL ρ gs vs) (k:RlL ρ gs' vs'):RlL ρ (gs++gs') (vs++vs'):=by
 induction gs generalizing vs with
 |nil=>rw[h.of_nil];exact k
 |cons g gs ih=>obtain⟨v,vs,rfl,h1,h2⟩:=h.of_cons;exact .cons h1 (ih h2)
theorem RlL.get {ρ:Rho} {gs:List GV} {vs:List Value} (h:RlL ρ gs vs) {i:Nat} {g:GV} (hg:gs[i]? = some g):∃v,vs[i]? = some v∧Rl ρ g v:=by
 have hi:=getElem?_lt hg
 have:i<vs.length:=h.len▸hi
 exact⟨vs[i],List.getElem?_eq_getElem this,h.at' i g _ hg (List.getElem?_eq_getElem this)⟩
theorem RlL.sub {ρ:Rho} {gs:List GV} {vs:List Value} (h:RlL ρ gs vs) (o n:Nat):RlL ρ ((gs.drop o).take n) ((vs.drop o).take n):=
 ⟨by simp[h.len],fun i g v h1 h2=>by
  rw[List.getElem?_take]at h1 h2
  split at h1
  ·rename_i hi
   rw[if_pos hi]at h2
   rw[List.getElem?_drop]at h1 h2
   exact h.at' _ g v h1 h2
  ·cases h1⟩

section
variable {ρ:Rho} {V:Value}
theorem Rl.int_inv {k:IntKind} {n:Int} (h:Rl ρ (.int k n) V):V = .int k n:=by cases h;rfl
theorem Rl.bool_inv {b:Bool} (h:Rl ρ (.bool b) V):V = .bool b:=by cases h;rfl
theorem Rl.str_inv {n l:Nat} (h:Rl ρ (.str n l) V):∃s,V = .string s∧n=encB (bytesOfV s)∧l=(bytesOfV s).length:=by cases h;exact⟨_,rfl,rfl,rfl⟩
theorem Rl.ptr_inv {h o:Nat} (x:Rl ρ (.ptr h o) V):∃l,ρ h=some l∧V = .pointer (some ⟨l.b,l.off+o,none⟩):=by cases x with|ptr o hl=>exact⟨_,hl,rfl⟩
theorem Rl.sl_inv {h o n sz:Nat} (x:Rl ρ (.sl h o n sz) V):∃l cap A,ρ h=some l∧V = .slice (some A) n cap∧n<=cap∧(cap=0∨(A=⟨l.b,l.off+o,none⟩∧l.off+o+cap*sz<=l.size)):=by
 cases x with|sl hl hc ha=>exact⟨_,_,_,hl,rfl,hc,ha⟩
theorem Rl.snil_inv (h:Rl ρ .snil V):V = .slice none 0 0:=by cases h;rfl
theorem Rl.map_inv {h:Nat} (x:Rl ρ (.map h) V):∃l,ρ h=some l∧V = .map (some l.b):=by cases x with|map hl=>exact⟨_,hl,rfl⟩
theorem Rl.fn_inv {f:Nat} {us vs:List GV} (x:Rl ρ (.fn f us vs) V):∃us' vs',V = .func (.func f) us'.toArray vs'.toArray∧RlL ρ us us'∧RlL ρ vs vs':=by
 cases x with|fn f h1 h2 h3 h4=>exact⟨_,_,rfl,⟨h1,h2⟩,⟨h3,h4⟩⟩
theorem Rl.agg_inv {cs:List GV} (x:Rl ρ (.agg cs) V):∃vs,V = .agg vs.toArray∧RlL ρ cs vs∧∀v∈vs,one v=true:=by
 cases x with|agg h1 h2 h3=>exact⟨_,rfl,⟨h1,h2⟩,h3⟩
theorem Rl.tup_inv {cs:List GV} (x:Rl ρ (.tup cs) V):∃vs,V = .tuple vs.toArray∧RlL ρ cs vs:=by
 cases x with|tup h1 h2=>exact⟨_,rfl,⟨h1,h2⟩⟩
theorem Rl.opn_inv {h:Nat} (x:Rl ρ (.opn h) V):∃l,ρ h=some l∧l.x = .cells #[V] 0 (0,0):=by cases x with|opn v hl hx=>exact⟨_,hl,hx⟩
theorem Rl.un_inv (x:Rl ρ .un V):V=undef:=by cases x;rfl
theorem Rl.fn' {f:Nat} {us vs:List GV} {us' vs':List Value} (h1:RlL ρ us us') (h2:RlL ρ vs vs'):Rl ρ (.fn f us vs) (.func (.func f) us'.toArray vs'.toArray):= .fn f h1.len h1.at' h2.len h2.at'
theorem Rl.agg' {cs:List GV} {vs:List Value} (h:RlL ρ cs vs) (h3:∀v∈vs,one v=true):Rl ρ (.agg cs) (.agg vs.toArray):= .agg h.len h.at' h3
theorem Rl.tup' {cs:List GV} {vs:List Value} (h:RlL ρ cs vs):Rl ρ (.tup cs) (.tuple vs.toArray):= .tup h.len h.at'
theorem Rl.cells {g:GV} {cs:List GV} (h:Rl ρ g V) (hc:g.cells=some cs):∃vs,V.cells=vs.toArray∧RlL ρ cs vs∧∀v∈vs,one v=true:=by
 have hone:∀g V,Rl ρ g V->one V=true->∃vs,#[V]=vs.toArray∧RlL ρ [g] vs∧∀v∈vs,one v=true:=fun g V h h1=>⟨[V],rfl,.cons h .nil,fun v hv=>by simp at hv;subst hv;exact h1⟩
 have h0:=h
 cases h with
 |agg h1 h2 h3=>cases hc;exact⟨_,rfl,⟨h1,h2⟩,h3⟩
 |tup h1 h2=>cases hc
 |un=>cases hc
 |bad v=>cases hc
 |opn v hl hx=>cases hc
 |_=>cases hc;exact hone _ _ h0 rfl
end

theorem ofV1_ok {ρ:Rho} {v:Value} {g:GV} (h:ofV1 v=some g):Rl ρ g v∧one v=true:=by
 unfold ofV1 at h
 split at h
 ·cases h;exact⟨.int _ _,rfl⟩
 ·cases h;exact⟨.bool _,rfl⟩
 ·cases h;exact⟨.snil,rfl⟩
 ·cases h;exact⟨.pnil,rfl⟩
 ·cases h;exact⟨.fnil,rfl⟩
 ·cases h;exact⟨.inil,rfl⟩
 ·simp only[sn_eq]at h;cases h;exact⟨.str _,rfl⟩
 ·cases h
theorem ofVs_ok {ρ:Rho}:∀{vs:List Value} {gs:List GV},ofVs vs=some gs->RlL ρ gs vs∧∀v∈vs,one v=true
 | [],gs,h=>by cases h;exact⟨.nil,fun v h=>by simp at h⟩
 | v :: vs, gs, h => by
  obtain⟨x,h1,h2⟩:=ob_some.1 (show ob (ofV1 v) (fun x=>ob (ofVs vs) fun xs=>some (x::xs))=some gs from h)
  obtain⟨xs,h3,h4⟩:=ob_some.1 h2
  cases h4
  obtain⟨a,b⟩:=ofVs_ok h3
  obtain⟨c,d⟩:=ofV1_ok (ρ:=ρ) h1
  exact⟨.cons c a,fun u hu=>by
   rcases List.mem_cons.1 hu with rfl|hu
   ·exact d
   ·exact b u hu⟩
theorem ofV_ok {ρ:Rho} {v:Value} {g:GV} (h:ofV v=some g):Rl ρ g v:=by
 unfold ofV at h
 split at h
 ·obtain⟨xs,h1,h2⟩:=ob_some.1 h
  cases h2
  obtain⟨a,b⟩:=ofVs_ok (ρ:=ρ) h1
  have:=Rl.agg' a b
  simpa using this
 ·exact(ofV1_ok h).1
theorem semV_ok {ρ:Rho} {s:Sem Value} {g:GV} (h:semV s=some g):∃v,Rl ρ g v∧s = .pure v:=by
 unfold semV at h
 split at h
 ·exact⟨_,(ofV1_ok h).1,rfl⟩
 ·cases h

structure FrOk (ρ:Rho) (n:Nat) (σ:GF) (a:Act):Prop where
 defers:a.defers=[]
 size:a.tmps.size=n
 slot:∀t g,glk σ t=some g->Rl ρ g (a.eval (.tmp t))
theorem FrOk.le {ρ ρ':Rho} (hl:ρ.le ρ') {n:Nat} {σ:GF} {a:Act} (h:FrOk ρ n σ a):FrOk ρ' n σ a:=⟨h.defers,h.size,fun t g hg=>(h.slot t g hg).le hl⟩
theorem FrOk.put {ρ:Rho} {n:Nat} {σ:GF} {a:Act} (h:FrOk ρ n σ a) {d:Nat} (hd:d<n) {g:GV} {v:Value} (hv:Rl ρ g v):FrOk ρ n ((d,g)::σ) (a.put (some d) v):=
 ⟨h.defers,by simp[Act.put,h.size],fun t u ht=>by
  rw[glk_cons]at ht
  by_cases e:t=d
  ·subst e;rw[if_pos rfl]at ht;cases ht
   have:(a.put (some t) v).eval (.tmp t)=v:=by simp[Act.put,Act.eval,h.size,hd]
   rw[this];exact hv
  ·rw[if_neg e]at ht
   have:(a.put (some d) v).eval (.tmp t)=a.eval (.tmp t):=by
    simp only[Act.put,Act.eval,Array.getD_eq_getD_getElem?]
    rw[Array.getElem?_setIfInBounds_ne (Ne.symm e)]
   rw[this];exact h.slot t u ht⟩
section
variable {ρ:Rho} {n:Nat} {σ:GF} {a:Act}
theorem gev_ok (F:FrOk ρ n σ a) {x:Operand} {g:GV} (h:gev σ x=some g):Rl ρ g (a.eval x):=by
 cases x with
 |tmp t=>exact F.slot t g h
 |const v=>exact ofV_ok h
 |global g=>cases h
 |func f=>cases h;exact Rl.fn' .nil .nil
theorem gevs_ok (F:FrOk ρ n σ a):∀{xs:List Operand} {gs:List GV},gevs σ xs=some gs->RlL ρ gs (xs.map a.eval)
 | [],gs,h=>by cases h;exact .nil
 |x::xs,gs,h=>by
  obtain⟨v,h1,h2⟩:=ob_some.1 (show ob (gev σ x) (fun v=>ob (gevs σ xs) fun vs=>some (v::vs))=some gs from h)
  obtain⟨vs,h3,h4⟩:=ob_some.1 h2
  cases h4
  exact .cons (gev_ok F h1) (gevs_ok F h3)
def RlP (ρ:Rho) (gs:List (Nat×GV)) (vs:List (Nat×Value)):Prop:=gs.map (·.1)=vs.map (·.1)∧RlL ρ (gs.map (·.2)) (vs.map (·.2))
theorem gparts_ok (F:FrOk ρ n σ a):∀{xs:List (Nat×Operand)} {gs:List (Nat×GV)},gparts σ xs=some gs->RlP ρ gs (xs.map fun p=>(p.1,a.eval p.2))
 | [],gs,h=>by cases h;exact⟨rfl,.nil⟩
 |x::xs,gs,h=>by
  obtain⟨v,h1,h2⟩:=ob_some.1 (show ob (gev σ x.2) (fun v=>ob (gparts σ xs) fun vs=>some ((x.1,v)::vs))=some gs from h)
  obtain⟨vs,h3,h4⟩:=ob_some.1 h2
  cases h4
  obtain⟨e1,e2⟩:=gparts_ok F h3
  exact⟨by simp only[List.map_cons,e1],.cons (gev_ok F h1) e2⟩
end

def Comp (P:Program) (ρ:Rho) (s:Sem Value) (g:GV):Prop:=∃v,Rl ρ g v∧∀w,s.run P w = .ok v w
structure TabOk (P:Program) (tb:TB):Prop where
 tab:∀{T d},tb T=some d->TyOk P T d
 /-- structs of leaves may be compared -/
 eqs:∀{T fs},eqRng T=true->fieldsOf tb T=some fs->leafFs tb fs=true->P.stoodInHeld T=false∧∀f∈fs,f.name ≠ "_"
noncomputable def eqsB (P:Program) (tb:TB):Bool:=(List.range 512).all fun T=>bif eqRng T then(Option.casesOn (motive:=fun _=>Bool) (fieldsOf tb T) true fun fs=>bif leafFs tb fs then(!P.stoodInHeld T&&fs.all fun f=> !(f.name == "_"))else true)else true
theorem eqs_of {P:Program} {tb:TB} (h:eqsB P tb=true) {T:Nat} {fs:List Field} (h5:eqRng T=true) (hf:fieldsOf tb T=some fs) (hl:leafFs tb fs=true):P.stoodInHeld T=false∧∀f∈fs,f.name ≠ "_":=by
 have h6:T<512:=by
  obtain⟨_,h⟩:=bif_some.1 (show(bif Nat.blt 31 T then(bif Nat.blt T 512 then some ()else none)else none)=some () by
   unfold eqRng at h5
   cases e:Nat.blt 31 T<;>rw[e]at h5
   ·cases h5
   ·rw[cond_true]at h5;rw[h5];rfl)
  obtain⟨h,_⟩:=bif_some.1 h
  simpa [Nat.blt_eq]using h
 have:=List.all_eq_true.1 h T (List.mem_range.2 h6)
 rw[h5,cond_true,hf]at this
 have this:(bif leafFs tb fs then(!P.stoodInHeld T&&fs.all fun f=> !(f.name == "_"))else true)=true:=this
 rw[hl,cond_true,Bool.and_eq_true]at this
 exact⟨by simpa using this.1,fun f hfm=>by simpa using List.all_eq_true.1 this.2 f hfm⟩
section
variable {P:Program} {tb:TB} {ρ:Rho} {V U W:Value} {v u t g:GV}
theorem wrapIn {k:IntKind} {z:Int} {g:GV} (h:gw k z=some g):g = .int k (k.wrap z):=by
  unfold gw at h
  rw[fi_eq]at h
  cases hk:isI64 k with
  | true =>
    rw[hk]at h
    obtain⟨h1,h2⟩:=bif_some.1 h
    cases h2
    have e:k = .i64:=by cases k<;>first|rfl|cases hk
    subst e
    have : -9223372036854775808<=z∧z<=9223372036854775807:=by
      cases z with
      | ofNat a => have : a < 9223372036854775808 := by simpa [i64in, Nat.blt_eq] using h1
                   simp only[Int.ofNat_eq_natCast];omega
      | negSucc a => have : a < 9223372036854775808 := by simpa [i64in, Nat.blt_eq] using h1
                     omega
    rw[wrap64_in this.1 this.2]
  | false =>
    rw[hk]at h
    simp only[cond_false,fi_eq]at h
    cases h;rfl
theorem binI_ok {op:BinOp} {k:IntKind} {a b:Int} {T:TypeId} (hs:isShift op=false) (h:binI op k a b=some g):∃v,Rl ρ g v∧binOp op T (.int k a) (.int k b) = .pure v:=by
 have hb:∀{p:Prop} [Decidable p] {c:Bool},c=decide p->fb c=some g->Rl ρ g (.bool (decide p)):=fun e h=>by rw[fb_eq]at h;cases h;rw[e];exact .bool _
 have hsem:∀op',isShift op'=false->semV (binOp op' 0 (.int k a) (.int k b))=some g->∃v,Rl ρ g v∧binOp op' T (.int k a) (.int k b) = .pure v:=fun op' hs' h=>by
  obtain⟨v,h1,h2⟩:=semV_ok (ρ:=ρ) h
  refine⟨v,h1,?_⟩
  rw[<-h2];cases op'<;>first|rfl|cases hs'
 cases op with
 |add=>exact⟨_,by rw[wrapIn h];exact .int _ _,by simp[binOp,Op.intArith];rfl⟩
 |sub=>exact⟨_,by rw[wrapIn h];exact .int _ _,by simp[binOp,Op.intArith];rfl⟩
 |eql=>exact⟨.bool (decide (a=b)),hb (eqI_eq a b) h,by simp[binOp,Op.intCmp];rfl⟩
 |neq=>exact⟨.bool (decide (¬a=b)),hb (by rw[eqI_eq];simp) h,by simp[binOp,Op.intCmp];rfl⟩
 |lss=>exact⟨.bool (decide (a<b)),hb (ltI_eq a b) h,by simp[binOp,Op.intCmp];rfl⟩
 |leq=>exact⟨.bool (decide (a<=b)),hb (by rw[ltI_eq,<-decide_not];exact decide_eq_decide.2 (by omega)) h,by simp[binOp,Op.intCmp];rfl⟩
 |gtr=>exact⟨.bool (decide (b<a)),hb (ltI_eq b a) h,by simp[binOp,Op.intCmp];rfl⟩
 |geq=>exact⟨.bool (decide (b<=a)),hb (by rw[ltI_eq,<-decide_not];exact decide_eq_decide.2 (by omega)) h,by simp[binOp,Op.intCmp];rfl⟩
 |shl=>cases hs
 |shr=>cases hs
 |mul=>exact hsem .mul hs h
 |quo=>exact hsem .quo hs h
 |rem=>exact hsem .rem hs h
 |and=>exact hsem .and hs h
 |or=>exact hsem .or hs h
 |xor=>exact hsem .xor hs h
 |andNot=>exact hsem .andNot hs h
end
end Go.Gx
end
section
namespace Go.Gx
open Go Go.Sx Go.RowKit

theorem encB_cons (b:UInt8) (l:List UInt8):encB (b::l)=b.toNat+256*encB l:=rfl
theorem encB_inj:∀{x y:List UInt8},x.length=y.length->encB x=encB y->x=y
 | [],[],_,_=>rfl
 | [],_::_,h,_=>by simp at h
 |_::_,[],h,_=>by simp at h
 |a::x,b::y,h,e=>by
  rw[encB_cons,encB_cons]at e
  have ha:=a.toNat_lt
  have hb:=b.toNat_lt
  have e1:a.toNat=b.toNat:=by omega
  have e2:encB x=encB y:=by omega
  rw[UInt8.toNat_inj.1 e1,encB_inj (by simpa using h) e2]
theorem encB_drop:∀(x:List UInt8) (n:Nat),encB x / 256^n=encB (x.drop n)
 |x,0=>by simp
 | [],n+1=>by simp[encB]
 |b::x,n+1=>by
  rw[encB_cons,List.drop_succ_cons,<-encB_drop x n,Nat.pow_succ,Nat.mul_comm (256^n) 256,<-Nat.div_div_eq_div_mul]
  have:=b.toNat_lt
  congr 1
  omega
theorem encB_take:∀(x:List UInt8) (n:Nat),encB x%256^n=encB (x.take n)
 |x,0=>by simp[encB,Nat.mod_one]
 | [],n+1=>by simp[encB]
 |b::x,n+1=>by
  rw[encB_cons,List.take_succ_cons,encB_cons,<-encB_take x n,Nat.pow_succ,Nat.mul_comm (256^n) 256,Nat.mod_mul]
  have hb:=b.toNat_lt
  have e1:(b.toNat+256*encB x)%256=b.toNat:=by omega
  have e2:(b.toNat+256*encB x) / 256=encB x:=by omega
  rw[e1,e2]
theorem shr8 (n l:Nat):Nat.shiftRight n (Nat.mul 8 l)=n / 256^l:=by
 show n >>> (8*l)=_
 rw[Nat.shiftRight_eq_div_pow,Nat.pow_mul]
theorem pow8 (k:Nat):Nat.pow 2 (Nat.mul 8 k)=256^k:=by
 show 2^(8*k)=_
 rw[Nat.pow_mul]
theorem encB_sub (x:List UInt8) (l k:Nat):Nat.mod (Nat.shiftRight (encB x) (Nat.mul 8 l)) (Nat.pow 2 (Nat.mul 8 k))=encB ((x.drop l).take k):=by
 rw[shr8,pow8]
 show encB x / 256^l%256^k=_
 rw[encB_drop,encB_take]
theorem encB_at (x:List UInt8) (i:Nat) (h:i<x.length):Nat.mod (Nat.shiftRight (encB x) (Nat.mul 8 i)) 256=(x[i]).toNat:=by
 rw[shr8]
 show encB x / 256^i%256=_
 rw[encB_drop,List.drop_eq_getElem_cons h,encB_cons]
 have:=(x[i]).toNat_lt
 omega
theorem bytes_get (s:ByteArray) (i:Nat):s[i]? = (bytesOfV s)[i]?:=by
 unfold bytesOfV
 by_cases h:i<s.size
 ·rw[getElem?_pos s i h,Array.getElem?_toList,Array.getElem?_eq_getElem (by simpa using h)];rfl
 ·rw[getElem?_neg s i h]
  rw[List.getElem?_eq_none (by have:=Lib.size_eq s;omega)]
section
variable {P:Program} {tb:TB} {ρ:Rho} {V U W:Value} {v u t g:GV}
theorem beqB' (a b:ByteArray):(a==b)=(a.toList==b.toList):=by
 rw[Lib.toList_data,Lib.toList_data]
 obtain⟨⟨x⟩⟩:=a
 obtain⟨⟨y⟩⟩:=b
 have:((⟨⟨x⟩⟩:ByteArray)==⟨⟨y⟩⟩)=((⟨x⟩:Array UInt8)==⟨y⟩):=rfl
 rw[this]
 simp
theorem eqS_ok {a b:Nat×Nat} {s r:ByteArray} (e1:a.1=encB (bytesOfV s)) (e2:a.2=(bytesOfV s).length) (e3:b.1=encB (bytesOfV r)) (e4:b.2=(bytesOfV r).length):eqS a b=(s.toList==r.toList):=by
 rw[Lib.toList_data,Lib.toList_data]
 unfold eqS
 rw[e1,e2,e3,e4]
 by_cases hl:(bytesOfV s).length=(bytesOfV r).length
 ·have hb:Nat.beq (bytesOfV r).length (bytesOfV r).length=true:=by simp
  rw[hl,hb,cond_true]
  by_cases he:encB (bytesOfV s)=encB (bytesOfV r)
  ·have:=encB_inj hl he
   unfold bytesOfV at this
   rw[he,this];simp
  ·rw[beq_ne he]
   symm
   rw[beq_eq_false_iff_ne]
   intro hh;exact he (by unfold bytesOfV;rw[hh])
 ·rw[beq_ne hl,cond_false]
  symm
  rw[beq_eq_false_iff_ne]
  intro hh;exact hl (by unfold bytesOfV;rw[hh])
theorem leafEq_ok (hG:TabOk P tb) {T:TypeId} {t:Ty} (ht:tb T=some t) {q:Bool} (hv:Rl ρ v V) (hu:Rl ρ u U) (h:leafEq t v u=some q) (m:Nat) (w:World):(Op.equalIn (m+1) T V U).run P w = .ok q w:=by
 have hun:=(hG.tab ht).run_und w
 unfold leafEq at h
 cases hi:v.asI with
 |some a=>
  rw[hi]at h
  obtain⟨b,hb,h⟩:=ob_some.1 h
  obtain⟨k,hk,h⟩:=ob_some.1 h
  obtain⟨hkk,h⟩:=bif_some.1 h
  cases h
  rw[asI_eq hi]at hv
  rw[asI_eq hb]at hu
  rw[hv.int_inv,hu.int_inv,<-eqK_eq hkk]
  rw[tdI_eq hk]at hun
  unfold Op.equalIn
  rw[eqI_eq]
  simp[hun]
  rfl
 | none =>
  rw[hi]at h
  simp only at h
  cases hs:v.asStr with
  |some a=>
   rw[hs]at h
   obtain⟨b,hb,h⟩:=ob_some.1 h
   obtain⟨hd,h⟩:=bif_some.1 h
   cases h
   rw[asStr_eq hs]at hv
   rw[asStr_eq hb]at hu
   obtain⟨s,rfl,e1,e2⟩:=hv.str_inv
   obtain⟨r,rfl,e3,e4⟩:=hu.str_inv
   rw[tdStr_eq hd]at hun
   rw[eqS_ok e1 e2 e3 e4,<-beqB']
   unfold Op.equalIn
   simp[hun]
  |none=>
   rw[hs]at h
   obtain⟨a,ha,h⟩:=ob_some.1 (show ob v.asB _=some q from h)
   obtain⟨b,hb,h⟩:=ob_some.1 h
   obtain⟨hd,h⟩:=bif_some.1 h
   cases h
   rw[asB_eq ha]at hv
   rw[asB_eq hb]at hu
   rw[hv.bool_inv,hu.bool_inv]
   rw[tdB_eq hd]at hun
   unfold Op.equalIn
   rw[eqB_eq]
   simp[hun]
theorem leafT_agg {t:Ty} (h:leafT t=true):(∃k,t.desc = .int k)∨t.desc = .string∨t.desc = .bool:=by
 unfold leafT at h
 cases hb:tdB t.desc with
 |true=>exact .inr (.inr (tdB_eq hb))
 | false =>
  rw[hb]at h
  cases hs:tdStr t.desc with
  |true=>exact .inr (.inl (tdStr_eq hs))
  |false=>
   rw[hs]at h
   cases hi:tdI t.desc with
   |none=>rw[hi]at h;cases h
   |some k=>exact .inl ⟨k,tdI_eq hi⟩
theorem leafFs_cons {f:Field} {fs:List Field} (h:leafFs tb (f::fs)=true):∃t,tb f.type=some t∧leafT t=true∧leafFs tb fs=true:=by
 have h:(Option.casesOn (motive:=fun _=>Bool) (tb f.type) false fun t=>bif leafT t then leafFs tb fs else false)=true:=h
 cases ht:tb f.type with
 |none=>rw[ht]at h;cases h
 |some t=>
  rw[ht]at h
  have h:(bif leafT t then leafFs tb fs else false)=true:=h
  cases hl:leafT t with
  |false=>rw[hl]at h;cases h
  |true=>rw[hl]at h;exact⟨t,rfl,hl,h⟩
theorem run_part (hG:TabOk P tb) {T:TypeId} {t:Ty} (ht:tb T=some t) (hl:leafT t=true) {cs:Array Value} {off:Nat} {x:Value} (hx:cs[off]? = some x) (w:World):(part T cs off).run P w = .ok x w:=by
 have hun:=(hG.tab ht).run_und w
 have ha:(isAgg T).run P w = .ok false w:=by
  unfold isAgg
  rcases leafT_agg hl with⟨k,e⟩|e|e<;>rw[e]at hun<;>simp[hun]
 unfold part
 simp[ha,hx]
theorem run_eqFs (hG:TabOk P tb) {cs ds:List GV} {vs us:List Value} (hv:RlL ρ cs vs) (hu:RlL ρ ds us) (m:Nat) (w:World):∀{fs:List Field} {q:Bool},eqFs tb cs ds fs=some q->leafFs tb fs=true->(∀f∈fs,f.name ≠ "_")->
  Sem.run P (forIn fs ((none,()):Option Bool×Unit) fun f __s=>if f.name = "_" then pure (ForInStep.yield (none,()))else do
   let __do_lift <-part f.type vs.toArray f.offset
   let __do_lift_1 <-part f.type us.toArray f.offset
   let __do_lift <-Op.equalIn (m+1) f.type __do_lift __do_lift_1
   if __do_lift=false then pure (ForInStep.done (some false,()))else pure (ForInStep.yield (none,()))) w = .ok (if q then none else some false,()) w
 | [],q,h,_,_=>by
  have:q=true:=by have h:some true=some q:=h;cases h;rfl
  subst this
  simp
 | f :: fs, q, h, hl, hn => by
  obtain⟨t,ht,h⟩:=ob_some.1 (show ob (tb f.type) _=some q from h)
  obtain⟨a,ha,h⟩:=ob_some.1 h
  obtain⟨b,hb,h⟩:=ob_some.1 h
  obtain⟨e,he,h⟩:=ob_some.1 h
  obtain⟨t',ht',hlt,hlf⟩:=leafFs_cons hl
  rw[ht]at ht';cases ht'
  rw[nth_eq]at ha hb
  obtain⟨x,hx,hrx⟩:=hv.get ha
  obtain⟨y,hy,hry⟩:=hu.get hb
  have p1:=run_part hG ht hlt (cs:=vs.toArray) (by simpa using hx) w
  have p2:=run_part hG ht hlt (cs:=us.toArray) (by simpa using hy) w
  have p3:=leafEq_ok hG ht hrx hry he m w
  have hne:=hn f List.mem_cons_self
  cases e with
  |false=>
   have:q=false:=by have h:some false=some q:=h;cases h;rfl
   subst this
   simp[List.forIn_cons,hne,p1,p2,p3]
  |true=>
   have ih:=run_eqFs hG hv hu m w (show eqFs tb cs ds fs=some q from h) hlf fun f hf=>hn f (List.mem_cons_of_mem _ hf)
   simp[List.forIn_cons,hne,p1,p2,p3,ih]
theorem equal_agg (hG:TabOk P tb) {T:TypeId} {fs:List Field} (h5:eqRng T=true) (hfs:fieldsOf tb T=some fs) (hl:leafFs tb fs=true) {cs ds:List GV} {vs us:List Value} (hv:RlL ρ cs vs) (hu:RlL ρ ds us) {q:Bool} (h:eqFs tb cs ds fs=some q) (w:World):
  (Op.equal T (.agg vs.toArray) (.agg us.toArray)).run P w = .ok q w:=by
 obtain⟨hs,hn⟩:=hG.eqs h5 hfs hl
 obtain⟨t,ht,h'⟩:=ob_some.1 (show ob (tb T) _=some fs from hfs)
 obtain⟨a,ha,h'⟩:=ob_some.1 h'
 cases h'
 have hun:=(hG.tab ht).run_und w
 rw[tdF_eq ha]at hun
 obtain⟨a⟩:=a
 have key:∀m,(Op.equalIn (m+1+1) T (.agg vs.toArray) (.agg us.toArray)).run P w = .ok q w:=fun m=>by
  have k:=run_eqFs hG hv hu m w h hl hn
  unfold Op.equalIn
  simp[hun,hs]
  simp only[]at k
  rw[k]
  cases q<;>simp
 exact key 9998
theorem eqGuardType_leaf (hG:TabOk P tb):∀(m:Nat) {T:TypeId} {t:Ty},tb T=some t->leafT t=true->P.eqGuardType (m+1) T=false:=fun m T t ht hl=>by
 have hun:=(hG.tab ht).und
 unfold Program.eqGuardType
 rcases leafT_agg hl with⟨k,e⟩|e|e<;>rw[e]at hun<;>simp[hun]
theorem eqGuardType_fs (hG:TabOk P tb) {T:TypeId} {fs:List Field} (hfs:fieldsOf tb T=some fs) (hl:leafFs tb fs=true):P.eqGuardType P.depth T=false:=by
 obtain⟨t,ht,h'⟩:=ob_some.1 (show ob (tb T) _=some fs from hfs)
 obtain⟨a,ha,h'⟩:=ob_some.1 h'
 cases h'
 have hun:=(hG.tab ht).und
 rw[tdF_eq ha]at hun
 have key:∀m,P.eqGuardType (m+2) T=false:=fun m=>by
  unfold Program.eqGuardType
  rw[hun]
  simp only
  rw[Array.any_eq_false']
  intro f hf
  have:f∈a.toList:=by simpa using hf
  have hlf:∀(l:List Field),leafFs tb l=true->∀f∈l,∃t,tb f.type=some t∧leafT t=true:=by
   intro l
   induction l with
   |nil=>intro _ f hf;cases hf
   |cons x l ih=>
    intro h f hf
    obtain⟨t,h1,h2,h3⟩:=leafFs_cons h
    rcases List.mem_cons.1 hf with rfl|hf
    ·exact⟨t,h1,h2⟩
    ·exact ih h3 f hf
  obtain⟨t',h1,h2⟩:=hlf _ hl f this
  simp[eqGuardType_leaf hG m h1 h2]
 unfold Program.depth
 exact key _
theorem guard_agg (hG:TabOk P tb) {op:BinOp} {T:TypeId} {fs:List Field} (hfs:fieldsOf tb T=some fs) (hl:leafFs tb fs=true) (x y:Operand) (a b:Array Value) (w:World):(eqGuard op T x y (.agg a) (.agg b)).run P w = .ok () w:=by
 have hg:=eqGuardType_fs hG hfs hl
 unfold eqGuard
 cases op<;>simp[hg]
theorem binB_eq_ok {op:BinOp} {T:TypeId} {q:Bool} {V U:Value} {x y:Operand} (hg:∀w,(eqGuard op T x y V U).run P w = .ok () w) (he:∀w,(Op.equal T V U).run P w = .ok q w) (h1:binOp .eql T V U=(do pure (.bool (<-Op.equal T V U)))) (h2:binOp .neq T V U=(do pure (.bool (!(<-Op.equal T V U))))) (h:binB op q true=some g):
  Comp P ρ (do eqGuard op T x y V U;binOp op T V U) g:=by
 cases op with
 |eql=>exact⟨.bool q,by have h':fb (eqB q true)=some g:=h;rw[fb_eq,eqB_eq]at h';cases h';cases q<;>exact .bool _,fun w=>by have a:=hg w;have b:=he w;rw[h1];simp[a,b]⟩
 |neq=>exact⟨.bool (!q),by have h':fb (!eqB q true)=some g:=h;rw[fb_eq,eqB_eq]at h';cases h';cases q<;>exact .bool _,fun w=>by have a:=hg w;have b:=he w;rw[h2];simp[a,b]⟩
 |_=>cases h
theorem vBinX_ok (hG:TabOk P tb) {op:BinOp} {T:TypeId} (x y:Operand) (hv:Rl ρ v V) (hu:Rl ρ u U) (h:vBinX tb op T v u=some g):Comp P ρ (do eqGuard op T x y V U;binOp op T V U) g:=by
 unfold vBinX at h
 cases ha:v.asA with
 |some cs=>
  rw[ha]at h
  obtain⟨ds,hd,h⟩:=ob_some.1 (show ob u.asA _=some g from h)
  obtain⟨h5,h⟩:=bif_some.1 h
  obtain⟨fs,hfs,h⟩:=ob_some.1 h
  obtain⟨hl,h⟩:=bif_some.1 h
  obtain⟨q,hq,h⟩:=ob_some.1 h
  rw[asA_eq ha]at hv
  rw[asA_eq hd]at hu
  obtain⟨vs,rfl,hr,_⟩:=hv.agg_inv
  obtain⟨us,rfl,hr',_⟩:=hu.agg_inv
  exact binB_eq_ok (guard_agg hG hfs hl x y _ _) (equal_agg hG h5 hfs hl hr hr' hq) rfl rfl h
 | none =>
  rw[ha]at h
  obtain⟨hz,h⟩:=bif_some.1 (show(bif u.isSnil then _ else none)=some g from h)
  obtain⟨n,hn,h⟩:=ob_some.1 h
  obtain⟨t,ht,h⟩:=ob_some.1 h
  obtain⟨e,he,h⟩:=ob_some.1 h
  rw[isSnil_eq hz]at hu
  have hU:=hu.snil_inv
  subst hU
  have hun:=fun w=>(hG.tab ht).run_und w
  rw[tdS_eq he]at hun
  cases hvz:v.isSnil with
  | true =>
   rw[hvz]at h
   rw[isSnil_eq hvz]at hv
   have hV:=hv.snil_inv
   subst hV
   refine binB_eq_ok (fun w=> ?_) (q:=true) (fun w=> ?_) rfl rfl h
   ·unfold eqGuard;cases op<;>simp
   ·have:(Op.equalIn (9999+1) T (.slice none 0 0) (.slice none 0 0)).run P w = .ok true w:=by
     unfold Op.equalIn
     simp[hun w]
    exact this
  | false =>
   rw[hvz]at h
   unfold glen at hn
   rw[hvz]at hn
   obtain⟨s,hs,hn⟩:=ob_some.1 (show ob v.asS _=some n from hn)
   rw[asS_eq hs]at hv
   obtain⟨l,cap,A,hl,rfl,_,_⟩:=hv.sl_inv
   refine binB_eq_ok (fun w=> ?_) (q:=false) (fun w=> ?_) rfl rfl h
   ·unfold eqGuard;cases op<;>simp
   ·have:(Op.equalIn (9999+1) T (.slice (some A) s.2.2.1 cap) (.slice none 0 0)).run P w = .ok false w:=by
     unfold Op.equalIn
     simp[hun w]
    exact this
theorem encB_append:∀(x y:List UInt8),encB (x++y)=encB x+256^x.length*encB y
 | [],y=>by simp[encB]
 |b::x,y=>by
  rw[List.cons_append,encB_cons,encB_cons,encB_append x y,List.length_cons,Nat.pow_succ]
  rw[Nat.mul_add,Nat.mul_comm (256^x.length) 256,Nat.mul_assoc]
  omega
theorem catS_ok {a b:Nat×Nat} {s r:ByteArray} (e1:a.1=encB (bytesOfV s)) (e2:a.2=(bytesOfV s).length) (e3:b.1=encB (bytesOfV r)) (e4:b.2=(bytesOfV r).length) (h:catS a b=some g) (w:World):Rl ρ g (.string (s++r))∧(Op.stringOp .add s r).run P w = .ok (.string (s++r)) w:=by
 unfold catS at h
 obtain⟨hl,h⟩:=bif_some.1 h
 rw[sn_eq,sn_eq]at h
 cases h
 have hl:a.2+b.2<16777216:=by simpa [Nat.blt_eq]using hl
 have hb:bytesOfV (s++r)=bytesOfV s++bytesOfV r:=by
  unfold bytesOfV
  obtain⟨⟨x⟩⟩:=s
  obtain⟨⟨y⟩⟩:=r
  simp
 constructor
 ·have h1:Nat.add a.1 (Nat.mul (Nat.pow 2 (Nat.mul 8 a.2)) b.1)=encB (bytesOfV (s++r)):=by
   rw[hb,encB_append,pow8,e1,e2,e3];rfl
  have h2:Nat.add a.2 b.2=(bytesOfV (s++r)).length:=by rw[hb,List.length_append,e2,e4];rfl
  rw[h1,h2]
  exact .str _
 ·have h3:(s.size:Int)+(r.size:Int)<=9223372036854775807:=by
   have e5:=Lib.size_eq s
   have e6:=Lib.size_eq r
   have e7:(bytesOfV s).length=s.data.size:=by unfold bytesOfV;simp
   have e8:(bytesOfV r).length=r.data.size:=by unfold bytesOfV;simp
   have e9:s.data.toList.length=s.data.size:=by simp
   have e10:r.data.toList.length=r.data.size:=by simp
   omega
  have h4:¬((((s.size+r.size:Nat)):Int)>IntKind.i64.max):=by
   show¬((((s.size+r.size:Nat)):Int)>9223372036854775807)
   omega
  unfold Op.stringOp
  simp only[]
  rw[if_neg h4]
  rfl
theorem vBin_ok (hG:TabOk P tb) {op:BinOp} {T:TypeId} (x y:Operand) (hv:Rl ρ v V) (hu:Rl ρ u U) (h:vBin tb op T v u=some g):Comp P ρ (do eqGuard op T x y V U;binOp op T V U) g:=by
 unfold vBin at h
 cases hi:v.asI with
 | some a =>
  rw[hi]at h
  obtain⟨b,hb,h⟩:=ob_some.1 h
  rw[asI_eq hi]at hv
  rw[asI_eq hb]at hu
  rw[hv.int_inv,hu.int_inv]
  have hg:∀w,(eqGuard op T x y (.int a.1 a.2) (.int b.1 b.2)).run P w = .ok () w:=fun w=>guard_int w
  cases hs:isShift op with
  |true=>
   rw[hs]at h
   obtain⟨z,h1,h2⟩:=semV_ok (ρ:=ρ) h
   have e:binOp op T (.int a.1 a.2) (.int b.1 b.2)=binOp op 0 (.int a.1 a.2) (.int b.1 b.2):=by cases op<;>first|rfl|cases hs
   exact⟨z,h1,fun w=>by rw[e,h2];simp[hg w]⟩
  |false=>
   rw[hs]at h
   simp only[cond_false]at h
   obtain⟨hk,h⟩:=bif_some.1 h
   have hk:=eqK_eq hk
   obtain⟨z,h1,h2⟩:=binI_ok (ρ:=ρ) (T:=T) hs h
   exact⟨z,h1,fun w=>by rw[<-hk,h2];have:=hg w;rw[<-hk]at this;simp[this]⟩
 | none =>
  rw[hi]at h
  simp only at h
  cases hstr:v.asStr with
  | some a =>
   rw[hstr]at h
   obtain⟨b,hb,h⟩:=ob_some.1 h
   rw[asStr_eq hstr]at hv
   rw[asStr_eq hb]at hu
   obtain⟨s,rfl,e1,e2⟩:=hv.str_inv
   obtain⟨r,rfl,e3,e4⟩:=hu.str_inv
   have heq:eqS a b=(s.toList==r.toList):=by
    rw[Lib.toList_data,Lib.toList_data]
    unfold eqS
    rw[e1,e2,e3,e4]
    by_cases hl:(bytesOfV s).length=(bytesOfV r).length
    ·have hb:Nat.beq (bytesOfV r).length (bytesOfV r).length=true:=by simp
     rw[hl,hb,cond_true]
     by_cases he:encB (bytesOfV s)=encB (bytesOfV r)
     ·have:=encB_inj hl he
      unfold bytesOfV at this
      rw[he,this];simp
     ·rw[beq_ne he]
      symm
      rw[beq_eq_false_iff_ne]
      intro hh;exact he (by unfold bytesOfV;rw[hh])
    ·rw[beq_ne hl,cond_false]
     symm
     rw[beq_eq_false_iff_ne]
     intro hh;exact hl (by unfold bytesOfV;rw[hh])
   have hgd:∀w,(eqGuard op T x y (.string s) (.string r)).run P w = .ok () w:=fun w=>by unfold eqGuard;cases op<;>simp
   have key:∀c:Bool,fb c=some g->Rl ρ g (.bool c):=fun c hc=>by rw[fb_eq]at hc;cases hc;exact .bool _
   cases op with
   |eql=>exact⟨_,key _ h,fun w=>by rw[heq];have:=hgd w;simp[this,binOp,Op.stringOp]⟩
   |neq=>exact⟨_,key _ h,fun w=>by rw[heq];have:=hgd w;simp[this,binOp,Op.stringOp]⟩
   |add=>exact⟨_,(catS_ok (P:=P) e1 e2 e3 e4 h default).1,fun w=>by have:=hgd w;have k:=(catS_ok (ρ:=ρ) (P:=P) e1 e2 e3 e4 h w).2;simp only[Sem.run_bind,this,Result.andThen_ok,binOp,k]⟩
   |_=>cases h
  | none =>
   rw[hstr]at h
   simp only at h
   cases ha:v.asB with
   | none =>
    rw[ha]at h
    simp only at h
    cases h1:v.isInil with
    |false=>rw[h1]at h;exact vBinX_ok hG x y hv hu h
    |true=>
    rw[h1]at h
    have h':=h
    clear h
    obtain⟨h2,h⟩:=bif_some.1 (show(bif u.isInil then _ else none)=some g from h')
    clear h'
    obtain⟨t,ht,h'⟩:=ob_some.1 h
    clear h
    obtain⟨hd,hfin⟩:=bif_some.1 h'
    clear h'
    have e1:v = .inil:=by cases v<;>first|rfl|cases h1
    have e2:u = .inil:=by cases u<;>first|rfl|cases h2
    subst e1;subst e2
    cases hv;cases hu
    obtain⟨ms,hms,h0⟩:∃ms,t.desc = .interface ms∧ms.size=0:=by
     cases hq:t.desc<;>rw[hq]at hd<;>first|(exact⟨_,rfl,Nat.eq_of_beq_eq_true hd⟩)|cases hd
    have hun:∀w:World,_:=fun w=>(hG.tab ht).run_und w
    have h0':ms.isEmpty=true:=by simp[Array.isEmpty,h0]
    have hgi:∀w,(Op.eqGuardIn Op.maxDepth T .nilIface .nilIface).run P w = .ok false w:=fun w=>by
     have key:∀m:Nat,(Op.eqGuardIn (m+1) T .nilIface .nilIface).run P w = .ok false w:=by
      intro m
      unfold Op.eqGuardIn
      simp[hun w,hms,h0']
     exact key 9999
    have hei:∀w,(Op.equal T .nilIface .nilIface).run P w = .ok true w:=fun w=>by
     have key:∀m:Nat,(Op.equalIn (m+1) T .nilIface .nilIface).run P w = .ok true w:=by
      intro m
      unfold Op.equalIn
      simp[hun w,hms]
     exact key 9999
    have hgd:∀w,(eqGuard op T x y .nilIface .nilIface).run P w = .ok () w:=fun w=>by
     unfold eqGuard
     cases op<;>simp[hgi w]
     all_goals (split<;>simp)
    cases op with
    |eql=>cases hfin;exact⟨.bool true,.bool _,fun w=>by have h1:=hgd w;have h2:=hei w;simp[h1,binOp,h2]⟩
    |neq=>cases hfin;exact⟨.bool false,.bool _,fun w=>by have h1:=hgd w;have h2:=hei w;simp[h1,binOp,h2]⟩
    |_=>cases hfin
   | some a =>
    rw[ha]at h
    simp only at h
    obtain⟨b,hb,h⟩:=ob_some.1 h
    obtain⟨t,ht,h⟩:=ob_some.1 h
    obtain⟨hd,h⟩:=bif_some.1 h
    rw[asB_eq ha]at hv
    rw[asB_eq hb]at hu
    rw[hv.bool_inv,hu.bool_inv]
    have hgd:∀w,(eqGuard op T x y (.bool a) (.bool b)).run P w = .ok () w:=fun w=>by unfold eqGuard;cases op<;>simp
    have heq:∀w,(Op.equal T (.bool a) (.bool b)).run P w = .ok (a==b) w:=fun w=>by
     have hu:=(hG.tab ht).run_und w
     rw[tdB_eq hd]at hu
     have key:∀m:Nat,(Op.equalIn (m+1) T (.bool a) (.bool b)).run P w = .ok (a==b) w:=by
      intro m
      unfold Op.equalIn
      simp[hu]
     exact key 9999
    cases op with
    |eql=>exact⟨.bool (a==b),by have h':fb (eqB a b)=some g:=h;rw[fb_eq,eqB_eq]at h';cases h';exact .bool _,fun w=>by have h1:=hgd w;have h2:=heq w;simp[h1,binOp,h2]⟩
    |neq=>exact⟨.bool (!(a==b)),by have h':fb (!eqB a b)=some g:=h;rw[fb_eq,eqB_eq]at h';cases h';exact .bool _,fun w=>by have h1:=hgd w;have h2:=heq w;simp[h1,binOp,h2]⟩
    |_=>cases h
theorem vUn_ok {op:UnOp} (hv:Rl ρ v V) (h:vUn op v=some g):Comp P ρ (Op.unary op V) g:=by
 cases op with
 |neg=>
  obtain⟨a,ha,h⟩:=ob_some.1 (show ob v.asI _=some g from h)
  rw[asI_eq ha]at hv
  rw[hv.int_inv,wrapIn h]
  exact⟨_,.int _ _,fun w=>by simp[Op.unary,Op.intArith]⟩
 |not=>
  obtain⟨a,ha,h⟩:=ob_some.1 (show ob v.asB _=some g from h)
  rw[asB_eq ha]at hv
  rw[hv.bool_inv]
  rw[fb_eq]at h;cases h
  exact⟨_,.bool _,fun w=>by simp[Op.unary]⟩
 |_=>cases h
theorem vConv_ok (hG:TabOk P tb) {S D:TypeId} (hv:Rl ρ v V) (h:vConv tb S D v=some g):Comp P ρ (convert S D V) g:=by
 obtain⟨a,ha,h⟩:=ob_some.1 (show ob v.asI _=some g from h)
 obtain⟨s,hs,h⟩:=ob_some.1 h
 obtain⟨k',hk',h⟩:=ob_some.1 h
 obtain⟨t,ht,h⟩:=ob_some.1 h
 obtain⟨k,hk,h⟩:=ob_some.1 h
 rw[fi_eq]at h;cases h
 rw[asI_eq ha]at hv
 rw[hv.int_inv]
 refine⟨_,.int _ _,fun w=> ?_⟩
 have h1:=(hG.tab hs).run_und w
 have h2:=(hG.tab ht).run_und w
 rw[tdI_eq hk']at h1
 rw[tdI_eq hk]at h2
 simp[convert,h1,h2,Conv.intToInt]
theorem nilck_ok (hv:Rl ρ v V) (h:v.nilck=some g):g=v∧∀(o:Oper) (x:Operand) (ev:Operand->Value),o.op = .nilCheck x->ev x=V->∀w,(execOp ev o).run P w = .ok (.value V) w:=by
 cases hv with
 |ptr off hl=>cases h;exact⟨rfl,fun o x ev ho hx w=>by simp[execOp,ho,hx]⟩
 |fn f h1 h2 h3 h4=>cases h;exact⟨rfl,fun o x ev ho hx w=>by simp[execOp,ho,hx]⟩
 |_=>cases h
theorem fieldsOf_ok (hG:TabOk P tb) {T:TypeId} {fs:List Field} (h:fieldsOf tb T=some fs):∃d,TyOk P T d∧d.desc = .struct fs.toArray:=by
 obtain⟨t,ht,h⟩:=ob_some.1 (show ob (tb T) _=some fs from h)
 obtain⟨a,ha,h⟩:=ob_some.1 h
 cases h
 exact⟨t,hG.tab ht,by rw[tdF_eq ha]⟩
theorem vField_ok (hG:TabOk P tb) {T:TypeId} {f:Nat} (hv:Rl ρ v V) (h:vField tb T f v=some g):Comp P ρ (Instr.fieldAt T V f) g:=by
 obtain⟨p,hp,h⟩:=ob_some.1 (show ob v.asP _=some g from h)
 obtain⟨fs,hfs,h⟩:=ob_some.1 h
 obtain⟨q,hq,h⟩:=ob_some.1 h
 obtain⟨tq,htq,h⟩:=ob_some.1 h
 obtain⟨h0,h⟩:=bif_some'.1 h
 rw[sn_eq]at h;cases h
 rw[asP_eq hp]at hv
 obtain⟨l,hl,rfl⟩:=hv.ptr_inv
 obtain⟨d,hd,he⟩:=fieldsOf_ok hG hfs
 rw[nth_eq]at hq
 refine⟨_,.ptr _ hl,fun w=> ?_⟩
 have h1:=hd.run_und w
 rw[he]at h1
 have hne:tq.size≠0:=fun e=>by rw[e]at h0;cases h0
 have e:l.off+(p.2+q.offset)=l.off+p.2+q.offset:=by omega
 show(Instr.fieldAt T (.pointer (some ⟨l.b,l.off+p.2,none⟩)) f).run P w = .ok (.pointer (some ⟨l.b,l.off+(p.2+q.offset),none⟩)) w
 rw[e]
 simp[Instr.fieldAt,h1,hq,Instr.sureAddr,fieldPlace,(hG.tab htq).run_size w,hne,add_none]
theorem ofCells_ok (hG:TabOk P tb) {T:TypeId} {t:Ty} {cs:List GV} {vs:List Value} {o:Nat} (hT:TyOk P T t) (hr:RlL ρ cs vs) (h1:∀v∈vs,one v=true) (h:ofCells t cs o=some g):Comp P ρ (part T vs.toArray o) g:=by
 unfold ofCells at h
 cases ha:aggD t.desc with
 |true=>
  rw[ha]at h
  obtain⟨r,hs,h⟩:=ob_some.1 h
  cases h
  obtain⟨hb,rfl⟩:=slc_eq hs
  refine⟨_,Rl.agg' (hr.sub o t.size) (fun v hv=>h1 v (List.mem_of_mem_drop (List.mem_of_mem_take hv))),fun w=> ?_⟩
  have e1:=hT.run_agg w
  have e2:=hT.run_size w
  rw[ha]at e1
  simp[part,e1,e2]
 |false=>
  rw[ha]at h
  rw[cond_false,nth_eq]at h
  obtain⟨x,hx,hr⟩:=hr.get h
  refine⟨x,hr,fun w=> ?_⟩
  have e1:=hT.run_agg w
  rw[ha]at e1
  simp[part,e1,hx]
theorem vPart_ok (hG:TabOk P tb) {T:TypeId} {f:Nat} (hv:Rl ρ v V) (h:vPart tb T f v=some g):Comp P ρ (Instr.field T V f) g:=by
 obtain⟨cs,hc,h⟩:=ob_some.1 (show ob v.asA _=some g from h)
 obtain⟨fs,hfs,h⟩:=ob_some.1 h
 obtain⟨q,hq,h⟩:=ob_some.1 h
 obtain⟨tq,htq,h⟩:=ob_some.1 h
 rw[asA_eq hc]at hv
 obtain⟨vs,rfl,hr,h1⟩:=hv.agg_inv
 obtain⟨d,hd,he⟩:=fieldsOf_ok hG hfs
 rw[nth_eq]at hq
 obtain⟨x,hx,hrun⟩:=ofCells_ok (T:=q.type) hG (hG.tab htq) hr h1 h
 refine⟨x,hx,fun w=> ?_⟩
 have h2:=hd.run_und w
 rw[he]at h2
 have:=hrun w
 simp[Instr.field,h2,hq,asAgg,this]
theorem elemOf_ok (hG:TabOk P tb) {T:TypeId} {e:TypeId×Ty} (h:elemOf tb T=some e):(∃d,TyOk P T d∧d.desc = .slice e.1)∧TyOk P e.1 e.2∧tb e.1=some e.2:=by
 obtain⟨t,ht,h⟩:=ob_some.1 (show ob (tb T) _=some e from h)
 obtain⟨a,ha,h⟩:=ob_some.1 h
 obtain⟨te,hte,h⟩:=ob_some.1 h
 cases h
 exact⟨⟨t,hG.tab ht,tdS_eq ha⟩,hG.tab hte,hte⟩
theorem vIndex_ok (hG:TabOk P tb) {T:TypeId} (hv:Rl ρ v V) (hu:Rl ρ u U) (h:vIndex tb T v u=some g):Comp P ρ (Instr.indexAt T V U) g:=by
 obtain⟨n,hn,h⟩:=ob_some.1 (show ob u.asI _=some g from h)
 obtain⟨i,hi,h⟩:=ob_some.1 h
 rw[asI_eq hn]at hu
 rw[hu.int_inv,asN_eq hi]
 cases hp:v.asP with
 |some p=>
  rw[hp]at h
  rw[asP_eq hp]at hv
  obtain⟨l,hl,rfl⟩:=hv.ptr_inv
  obtain⟨t,ht,h⟩:=ob_some.1 (show ob (tb T) _=some g from h)
  obtain⟨e,he,h⟩:=ob_some.1 h
  obtain⟨te,hte,h⟩:=ob_some.1 h
  obtain⟨hlt,h⟩:=bif_some.1 h
  rw[sn_eq]at h;cases h
  refine⟨_,.ptr _ hl,fun w=> ?_⟩
  have h1:=(hG.tab ht).run_und w
  rw[tdA_eq he]at h1
  have hlt:i<e.1:=by simpa [Nat.blt_eq]using hlt
  have ee:l.off+(p.2+i*te.size)=l.off+p.2+i*te.size:=by omega
  show(Instr.indexAt T (.pointer (some ⟨l.b,l.off+p.2,none⟩)) (.int n.1 i)).run P w = .ok (.pointer (some ⟨l.b,l.off+(p.2+i*te.size),none⟩)) w
  rw[ee]
  simp[Instr.indexAt,asIntOf,h1,Instr.sureAddr,hlt,(hG.tab hte).run_size w,add_none]
 |none=>
  rw[hp]at h
  obtain⟨s,hs,h⟩:=ob_some.1 (show ob v.asS _=some g from h)
  rw[asS_eq hs]at hv
  obtain⟨l,cap,A,hl,rfl,hc,ha⟩:=hv.sl_inv
  obtain⟨te,hte,h⟩:=ob_some.1 (show ob (elemOf tb T) _=some g from h)
  obtain⟨hlt,h⟩:=bif_some.1 h
  rw[sn_eq]at h;cases h
  obtain⟨⟨d,hd,hde⟩,hE,_⟩:=elemOf_ok hG hte
  have hlt:i<s.2.2.1:=by simpa [Nat.blt_eq]using hlt
  rcases ha with ha|⟨rfl,_⟩
  ·omega
  refine⟨_,.ptr _ hl,fun w=> ?_⟩
  have h1:=hd.run_und w
  rw[hde]at h1
  have ee:l.off+(s.2.1+i*te.2.size)=l.off+s.2.1+i*te.2.size:=by omega
  show(Instr.indexAt T (.slice (some ⟨l.b,l.off+s.2.1,none⟩) s.2.2.1 cap) (.int n.1 i)).run P w = .ok (.pointer (some ⟨l.b,l.off+(s.2.1+i*te.2.size),none⟩)) w
  rw[ee]
  simp[Instr.indexAt,asIntOf,h1,hlt,hE.run_size w,add_none]
theorem vAt_ok (hG:TabOk P tb) {T:TypeId} (hv:Rl ρ v V) (hu:Rl ρ u U) (h:vAt tb T v u=some g):Comp P ρ (Instr.index T V U) g:=by
 obtain⟨s,hs,h⟩:=ob_some.1 (show ob v.asStr _=some g from h)
 obtain⟨n,hn,h⟩:=ob_some.1 h
 obtain⟨i,hi,h⟩:=ob_some.1 h
 obtain⟨t,ht,h⟩:=ob_some.1 h
 obtain⟨hd,h⟩:=bif_some.1 h
 obtain⟨hlt,h⟩:=bif_some.1 h
 rw[sn_eq]at h;cases h
 rw[asI_eq hn]at hu
 rw[hu.int_inv,asN_eq hi]
 rw[asStr_eq hs]at hv
 obtain⟨r,rfl,e1,e2⟩:=hv.str_inv
 have hlt:i<(bytesOfV r).length:=by rw[<-e2];simpa [Nat.blt_eq]using hlt
 rw[e1,encB_at _ _ hlt]
 refine⟨_,.int _ _,fun w=> ?_⟩
 have h1:=(hG.tab ht).run_und w
 rw[tdStr_eq hd]at h1
 have hb:=bytes_get r i
 rw[List.getElem?_eq_getElem hlt]at hb
 simp[Instr.index,asIntOf,h1,hb]
theorem vExt_ok {i:Nat} (hv:Rl ρ v V) (h:vExt i v=some g):Comp P ρ (Instr.extract V i) g:=by
 obtain⟨vs,hs,h⟩:=ob_some.1 (show ob v.asT _=some g from h)
 rw[asT_eq hs]at hv
 obtain⟨us,rfl,hr⟩:=hv.tup_inv
 rw[nth_eq]at h
 obtain⟨x,hx,hr⟩:=hr.get h
 exact⟨x,hr,fun w=>by simp[Instr.extract,hx]⟩
theorem vMax_ok {t1 t2 ty:TypeId} (hv:Rl ρ v V) (hu:Rl ρ u U) (h:vMax v u=some g):Comp P ρ (Builtin.max_ #[t1,t2] ty #[V,U]) g:=by
 obtain⟨a,ha,h⟩:=ob_some.1 (show ob v.asI _=some g from h)
 obtain⟨b,hb,h⟩:=ob_some.1 h
 obtain⟨hk,h⟩:=bif_some.1 h
 have hk:=eqK_eq hk
 have hv':=hv;have hu':=hu
 rw[asI_eq ha]at hv';rw[asI_eq hb]at hu'
 rw[ltI_eq]at h
 by_cases hlt:a.2<b.2
 ·rw[decide_eq_true hlt]at h;cases h
  refine⟨U,hu,fun w=> ?_⟩
  rw[hv'.int_inv,hu'.int_inv,<-hk]
  simp[Builtin.max_,Builtin.max2];omega
 ·rw[decide_eq_false hlt]at h;cases h
  refine⟨V,hv,fun w=> ?_⟩
  rw[hv'.int_inv,hu'.int_inv,<-hk]
  simp[Builtin.max_,Builtin.max2];omega
theorem vMin_ok {t1 t2 ty:TypeId} (hv:Rl ρ v V) (hu:Rl ρ u U) (h:vMin v u=some g):Comp P ρ (Builtin.min_ #[t1,t2] ty #[V,U]) g:=by
 obtain⟨a,ha,h⟩:=ob_some.1 (show ob v.asI _=some g from h)
 obtain⟨b,hb,h⟩:=ob_some.1 h
 obtain⟨hk,h⟩:=bif_some.1 h
 have hk:=eqK_eq hk
 have hv':=hv;have hu':=hu
 rw[asI_eq ha]at hv';rw[asI_eq hb]at hu'
 rw[ltI_eq]at h
 by_cases hlt:b.2<a.2
 ·rw[decide_eq_true hlt]at h;cases h
  refine⟨U,hu,fun w=> ?_⟩
  rw[hv'.int_inv,hu'.int_inv,<-hk]
  simp[Builtin.min_,Builtin.min2];omega
 ·rw[decide_eq_false hlt]at h;cases h
  refine⟨V,hv,fun w=> ?_⟩
  rw[hv'.int_inv,hu'.int_inv,<-hk]
  simp[Builtin.min_,Builtin.min2];omega
theorem vCap_ok (hG:TabOk P tb) {T ty:TypeId} (hv:Rl ρ v V) (h:vCap tb T v=some g):Comp P ρ (Builtin.cap_ #[T] ty #[V]) g:=by
 obtain⟨t,ht,h⟩:=ob_some.1 (show ob (tb T) _=some g from h)
 obtain⟨e,he,h⟩:=ob_some.1 h
 obtain⟨hz,h⟩:=bif_some.1 h
 cases h
 rw[isSnil_eq hz]at hv
 have hV:=hv.snil_inv
 subst hV
 have hun:=fun w=>(hG.tab ht).run_und w
 rw[tdS_eq he]at hun
 exact⟨_,.int _ _,fun w=>by simp[Builtin.cap_,hun w,goInt]⟩
theorem vLen_ok (hG:TabOk P tb) {T ty:TypeId} (hv:Rl ρ v V) (h:vLen tb T v=some g):Comp P ρ (Builtin.len_ #[T] ty #[V]) g:=by
 obtain⟨t,ht,h⟩:=ob_some.1 (show ob (tb T) _=some g from h)
 cases hs:v.asStr with
 |some s=>
  rw[hs]at h
  obtain⟨hd,h⟩:=bif_some.1 h
  cases h
  rw[asStr_eq hs]at hv
  obtain⟨r,rfl,e1,e2⟩:=hv.str_inv
  refine⟨_,.int _ _,fun w=> ?_⟩
  have h1:=(hG.tab ht).run_und w
  rw[tdStr_eq hd]at h1
  rw[e2]
  have:r.size=(bytesOfV r).length:=Lib.size_eq r
  simp[Builtin.len_,h1,goInt,this]
 | none =>
  rw[hs]at h
  obtain⟨E,hE,h⟩:=ob_some.1 (show ob (tdS t.desc) _=some g from h)
  obtain⟨n,hn,h⟩:=ob_some.1 h
  cases h
  unfold glen at hn
  cases hz:v.isSnil with
  |true=>
   rw[hz]at hn;cases hn
   rw[isSnil_eq hz]at hv
   rw[hv.snil_inv]
   exact⟨_,.int _ _,fun w=>run_len w (hG.tab ht) (tdS_eq hE) _ _ _ _⟩
  |false=>
   rw[hz]at hn
   obtain⟨s,hs,hn⟩:=ob_some.1 (show ob v.asS _=some n from hn)
   cases hn
   rw[asS_eq hs]at hv
   obtain⟨l,cap,A,hl,rfl,hc,ha⟩:=hv.sl_inv
   exact⟨_,.int _ _,fun w=>run_len w (hG.tab ht) (tdS_eq hE) _ _ _ _⟩
end
end Go.Gx
end
section
namespace Go.Gx
open Go Go.Sx Go.RowKit

theorem foldSet (off:Nat):∀(vs:List Value) (k:Nat) (cs:Array Value),off+k+vs.length<=cs.size->
  ((vs.zipIdx k).foldl (fun cs p=>cs.setIfInBounds (off+p.2) p.1) cs).size=cs.size∧
  ∀i,((vs.zipIdx k).foldl (fun cs p=>cs.setIfInBounds (off+p.2) p.1) cs)[i]? = if off+k<=i∧i<off+k+vs.length then vs[i - (off+k)]? else cs[i]?
 | [],k,cs,_=>⟨rfl,fun i=>by rw[if_neg (by simp)];rfl⟩
 | v :: vs, k, cs, h => by
  simp only[List.length_cons]at h
  simp only[List.zipIdx_cons,List.foldl_cons]
  obtain⟨h1,h2⟩:=foldSet off vs (k+1) (cs.setIfInBounds (off+k) v) (by simp;omega)
  refine⟨by rw[h1];simp,fun i=> ?_⟩
  rw[h2 i]
  by_cases e:i=off+k
  ·subst e
   rw[if_neg (by omega),if_pos (by simp),Array.getElem?_setIfInBounds_self_of_lt (by omega)]
   simp
  ·by_cases e2:off+(k+1)<=i∧i<off+(k+1)+vs.length
   ·rw[if_pos e2,if_pos (by simp;omega)]
    have:i - (off+k)=(i - (off+(k+1)))+1:=by omega
    rw[this,List.getElem?_cons_succ]
   ·rw[if_neg e2,if_neg (by simp;omega),Array.getElem?_setIfInBounds_ne (Ne.symm e)]
section
variable {P:Program} {tb:TB} {ρ:Rho} {V U W:Value} {v u t g:GV}
structure RlC (ρ:Rho) (cs:List GV) (a:Array Value):Prop where
 r:RlL ρ cs a.toList
 one:∀v∈a.toList,Go.Sx.one v=true
theorem getOne {a:Array Value} (h:∀v∈a.toList,one v=true) {i:Nat} {v:Value} (hv:a[i]? = some v):one v=true:=h v (by
 rw[<-Array.getElem?_toList]at hv;exact List.mem_of_getElem? hv)
theorem fill_step {cs c1 cc:List GV} {a:Array Value} {off sz:Nat} {x:Value} (hr:RlC ρ cs a) (hx:Rl ρ g x) (hc:g.cells=some cc) (hl:cc.length=sz) (h0:sz≠0) (hp:gput cc off cs=some c1):
  (x.cells.size=sz∧off+x.cells.size<=a.size)∧RlC ρ c1 (x.cells.zipIdx.foldl (fun cs (c,j)=>cs.setIfInBounds (off+j) c) a):=by
 obtain⟨vs,e,hvs,h1⟩:=hx.cells hc
 obtain⟨p1,p2,p3⟩:=gput_eq hp
 have hne:cc≠[]:=by intro e;subst e;exact h0 hl.symm
 have p1:=p1 hne
 have hlen:cc.length=vs.length:=hvs.len
 have hsz:cs.length=a.size:=by have:=hr.r.len;simpa using this
 rw[e]
 have hfit:off+0+vs.length<=a.size:=by omega
 obtain⟨f1,f2⟩:=foldSet off vs 0 a hfit
 have ef:(vs.toArray.zipIdx.foldl (fun cs (c,j)=>cs.setIfInBounds (off+j) c) a)=((vs.zipIdx 0).foldl (fun cs p=>cs.setIfInBounds (off+p.2) p.1) a):=by
  simp
 refine⟨⟨by simp;omega,by simp;omega⟩,?_⟩
 rw[ef]
 refine⟨⟨by simp[f1,p2,hsz],fun i b c hb hc=> ?_⟩,fun y hy=> ?_⟩
 ·rw[p3 i]at hb
  rw[Array.getElem?_toList,f2 i]at hc
  simp only[Nat.add_zero]at hc
  by_cases hi:off<=i∧i<off+cc.length
  ·rw[if_pos hi]at hb
   rw[if_pos (by omega)]at hc
   exact hvs.at' _ _ _ hb hc
  ·rw[if_neg hi]at hb
   rw[if_neg (by omega)]at hc
   exact hr.r.at' i b c hb (by rw[Array.getElem?_toList];exact hc)
 ·obtain⟨i,hi⟩:=List.mem_iff_getElem?.1 hy
  rw[Array.getElem?_toList,f2 i]at hi
  split at hi
  ·exact h1 y (List.mem_of_getElem? hi)
  ·exact getOne hr.one hi
theorem gfillA_ok {sz:Nat}:∀{l:List (Nat×GV)} {parts:List (Nat×Value)} {cs cs':List GV} {a:Array Value},RlP ρ l parts->RlC ρ cs a->gfillA sz l cs=some cs'->
  ∃a',Instr.fill (fun i=>some (i*sz,sz)) a parts=some a'∧RlC ρ cs' a'
 | [],parts,cs,cs',a,hp,hr,h=>by
  have:parts=[]:=by have:=hp.1;simpa using this.symm
  subst this;cases h;exact⟨a,rfl,hr⟩
 | p :: l, parts, cs, cs', a, hp, hr, h => by
  cases parts with
  |nil=>have:=hp.1;simp at this
  |cons q parts=>
   obtain⟨e1,e2⟩:=hp
   simp only[List.map_cons,List.cons.injEq]at e1
   obtain⟨y,ys,e3,h1,h2⟩:=e2.of_cons
   simp only[List.map_cons,List.cons.injEq]at e3
   obtain⟨rfl,rfl⟩:=e3
   obtain⟨cc,hcc,h⟩:=ob_some.1 (show ob p.2.cells (fun cc=>bif Nat.beq cc.length sz then(bif Nat.beq sz 0 then none else ob (gput cc (Nat.mul p.1 sz) cs) (gfillA sz l))else none)=some cs' from h)
   obtain⟨hl,h⟩:=bif_some.1 h
   obtain⟨h0,h⟩:=bif_some'.1 h
   obtain⟨c1,hg,h⟩:=ob_some.1 h
   have h0:sz≠0:=fun e=>by rw[e]at h0;cases h0
   obtain⟨⟨s1,s2⟩,s3⟩:=fill_step hr h1 hcc (Nat.eq_of_beq_eq_true hl) h0 hg
   obtain⟨a',f1,f2⟩:=gfillA_ok ⟨e1.2,h2⟩ s3 h
   refine⟨a',?_,f2⟩
   have e:Nat.mul p.1 sz=q.1*sz:=by rw[<-e1.1];rfl
   rw[e]at s2 s3 f1
   show Instr.fill _ a ((q.1,q.2)::parts)=_
   unfold Instr.fill
   simp only
   rw[if_neg (by simp only[ne_eq,Bool.or_eq_true,decide_eq_true_eq,not_or,Decidable.not_not];omega)]
   exact f1
theorem gfillF_ok {ps:List (Nat×Nat)}:∀{l:List (Nat×GV)} {parts:List (Nat×Value)} {cs cs':List GV} {a:Array Value},RlP ρ l parts->RlC ρ cs a->gfillF ps l cs=some cs'->
  ∃a',Instr.fill (ps.toArray[·]?) a parts=some a'∧RlC ρ cs' a'
 | [],parts,cs,cs',a,hp,hr,h=>by
  have:parts=[]:=by have:=hp.1;simpa using this.symm
  subst this;cases h;exact⟨a,rfl,hr⟩
 | p :: l, parts, cs, cs', a, hp, hr, h => by
  cases parts with
  |nil=>have:=hp.1;simp at this
  |cons q parts=>
   obtain⟨e1,e2⟩:=hp
   simp only[List.map_cons,List.cons.injEq]at e1
   obtain⟨y,ys,e3,h1,h2⟩:=e2.of_cons
   simp only[List.map_cons,List.cons.injEq]at e3
   obtain⟨rfl,rfl⟩:=e3
   obtain⟨pl,hpl,h⟩:=ob_some.1 (show ob (nth ps p.1) (fun q=>ob p.2.cells fun cc=>bif Nat.beq cc.length q.2 then(bif Nat.beq q.2 0 then none else ob (gput cc q.1 cs) (gfillF ps l))else none)=some cs' from h)
   obtain⟨cc,hcc,h⟩:=ob_some.1 h
   obtain⟨hl,h⟩:=bif_some.1 h
   obtain⟨h0,h⟩:=bif_some'.1 h
   obtain⟨c1,hg,h⟩:=ob_some.1 h
   have h0:pl.2≠0:=fun e=>by rw[e]at h0;cases h0
   obtain⟨⟨s1,s2⟩,s3⟩:=fill_step hr h1 hcc (Nat.eq_of_beq_eq_true hl) h0 hg
   obtain⟨a',f1,f2⟩:=gfillF_ok ⟨e1.2,h2⟩ s3 h
   refine⟨a',?_,f2⟩
   rw[nth_eq,e1.1]at hpl
   show Instr.fill _ a ((q.1,q.2)::parts)=_
   unfold Instr.fill
   have:ps.toArray[q.1]? = some pl:=by simpa using hpl
   simp only[this]
   rw[if_neg (by simp only[ne_eq,Bool.or_eq_true,decide_eq_true_eq,not_or,Decidable.not_not];omega)]
   exact f1
theorem zeroOf_ok (hG:TabOk P tb) {T:TypeId} {zc:List GV} (h:zeroOf tb T=some zc):∃d,tb T=some d∧TyOk P T d∧RlC ρ zc d.zero.cells:=by
 obtain⟨d,hd,h⟩:=ob_some.1 (show ob (tb T) _=some zc from h)
 obtain⟨z,hz,h⟩:=ob_some.1 h
 obtain⟨vs,e,hr,h1⟩:=(ofV_ok (ρ:=ρ) hz).cells h
 exact⟨d,hd,hG.tab hd,by rw[e];exact⟨hr,h1⟩⟩
theorem sizesOf_ok (hG:TabOk P tb):∀{fs:List Field} {pl:List (Nat×Nat)},sizesOf tb fs=some pl->fs.mapM (fun f=>(P.info? f.type).map fun i=>(f.offset,i.size))=some pl
 | [],pl,h=>by cases h;rfl
 |f::fs,pl,h=>by
  obtain⟨t,ht,h⟩:=ob_some.1 (show ob (tb f.type) (fun t=>ob (sizesOf tb fs) fun r=>some ((f.offset,t.size)::r))=some pl from h)
  obtain⟨r,hr,h⟩:=ob_some.1 h
  cases h
  obtain⟨i,hi,hs,_,_⟩:=(hG.tab ht).info
  simp[List.mapM_cons,hi,hs,sizesOf_ok hG hr]
theorem vBuild_ok (hG:TabOk P tb) {T:TypeId} {l:List (Nat×GV)} {parts:List (Nat×Value)} (hp:RlP ρ l parts) (h:vBuild tb T l=some g):Comp P ρ (Instr.build T parts.toArray) g:=by
 obtain⟨t,ht,h⟩:=ob_some.1 (show ob (tb T) _=some g from h)
 obtain⟨zc,hz,h⟩:=ob_some.1 h
 obtain⟨d,hd,hT,hC⟩:=zeroOf_ok (ρ:=ρ) hG hz
 rw[ht]at hd;cases hd
 obtain⟨i,hi,hs,_,hzero⟩:=hT.info
 have hu:=hT.und
 suffices hh:∃a',P.built T parts=some a'∧∃cs',g = .agg cs'∧RlC ρ cs' a' by
  obtain⟨a',hb,cs',rfl,hC'⟩:=hh
  refine⟨.agg a',?_,fun w=>run_build w T parts.toArray a' (by simpa using hb)⟩
  have:=Rl.agg' hC'.r hC'.one
  simpa using this
 cases hf:tdF t.desc with
 | some fs =>
  rw[hf]at h
  obtain⟨pl,hpl,h⟩:=ob_some.1 (show ob (placesOf tb T) _=some g from h)
  obtain⟨cs,hfill,h⟩:=ob_some.1 h
  cases h
  obtain⟨fl,hfl,hpl⟩:=ob_some.1 (show ob (fieldsOf tb T) _=some pl from hpl)
  have hfl':fl=fs.toList:=by
   obtain⟨t',ht',h'⟩:=ob_some.1 (show ob (tb T) _=some fl from hfl)
   rw[ht]at ht';cases ht'
   obtain⟨fs',hfs',h'⟩:=ob_some.1 h'
   rw[hf]at hfs';cases hfs';cases h';rfl
  subst hfl'
  obtain⟨a',f1,f2⟩:=gfillF_ok hp hC hfill
  refine⟨a',?_,cs,rfl,f2⟩
  rw[tdF_eq hf]at hu
  unfold Program.built
  simp only[hi,hu,hzero,sizesOf_ok hG hpl]
  exact f1
 |none=>
  rw[hf]at h
  obtain⟨e,he,h⟩:=ob_some.1 (show ob (tdA t.desc) _=some g from h)
  obtain⟨te,hte,h⟩:=ob_some.1 h
  obtain⟨cs,hfill,h⟩:=ob_some.1 h
  cases h
  obtain⟨a',f1,f2⟩:=gfillA_ok hp hC hfill
  refine⟨a',?_,cs,rfl,f2⟩
  rw[tdA_eq he]at hu
  obtain⟨ie,hie,hse,_,_⟩:=(hG.tab hte).info
  unfold Program.built
  simp only[hi,hu,hzero,hie,hse]
  exact f1
end

def ObjOk (ρ:Rho) (w:World) (l:Loc):GO->Prop
 | .cells cs=>∃(cur:Array Value) (T:TypeId),w.heap[l.b]? = some (.cells cur T (0,0))∧cur.size=l.size∧l.off+cs.length<=l.size∧∀(i:Nat) g,cs[i]? = some g->∃v,cur[l.off+i]? = some v∧Rl ρ g v∧one v=true
 | .mp es=>∃(en:Array MapEntry) (clock:Nat),w.heap[l.b]? = some (.map en clock)∧en.size=es.length∧∀(i:Nat) e,es[i]? = some e->∃m,en[i]? = some m∧Rl ρ e.1 m.key∧Rl ρ e.2 m.val
theorem ObjOk.lt {ρ:Rho} {w:World} {l:Loc} {o:GO} (h:ObjOk ρ w l o):l.b<w.heap.size:=by
 cases o with
 |cells cs=>obtain⟨cur,T,h,_⟩:=h;exact(Array.getElem?_eq_some_iff.1 h).1
 |mp es=>obtain⟨cur,T,h,_⟩:=h;exact(Array.getElem?_eq_some_iff.1 h).1
theorem ObjOk.move {ρ ρ':Rho} {w w':World} {l:Loc} {o:GO} (h:ObjOk ρ w l o) (hl:ρ.le ρ') (e:w'.heap[l.b]? = w.heap[l.b]?):ObjOk ρ' w' l o:=by
 cases o with
 |cells cs=>obtain⟨cur,T,h1,h2,h3,h4⟩:=h;exact⟨cur,T,by rw[e];exact h1,h2,h3,fun i g hg=>let ⟨v,a,b,c⟩:=h4 i g hg;⟨v,a,b.le hl,c⟩⟩
 |mp es=>obtain⟨en,cl,h1,h2,h3⟩:=h;exact⟨en,cl,by rw[e];exact h1,h2,fun i g hg=>let ⟨m,a,b,c⟩:=h3 i g hg;⟨m,a,b.le hl,c.le hl⟩⟩
structure Gls where
 obs:List (Nat×Obj)
 env:List Value
def GlsOk (gs:Gls) (w:World) (O:Nat->Prop):Prop:=∀p∈gs.obs,w.heap[p.1]? = some p.2∧¬O p.1
structure Base (gs:Gls) where
 w:World
 O:Nat->Prop
 ok:GlsOk gs w O
def Base.mine {gs:Gls} (b:Base gs) (k:Nat):Prop:=b.w.heap.size<=k∨b.O k
structure Rel {gs:Gls} (w0:Base gs) (ρ:Rho) (H:GH) (w:World):Prop where
 ext:Kept w0.O w0.w w
 live:∀h o,H.get h=some o->∃l,ρ h=some l∧w0.mine l.b∧ObjOk ρ w l o
 inj:∀h h' o o' l l',H.get h=some o->H.get h'=some o'->ρ h=some l->ρ h'=some l'->l.b=l'.b->h=h'
 fresh:∀h,H.n<=h->ρ h=none
 dense:∀h,h<H.n->∃l,ρ h=some l
 /-- the block holds what was written last -/
 vers:∀h v l,H.ver h=some v->ρ h=some l->∃lv,ρ v=some lv∧w.heap[l.b]? = some lv.x∧H.get h=some lv.o
 /-- the first handles stand for the open values -/
 env:∀i v,gs.env[i]? = some v->∃l,ρ i=some l∧l.x = .cells #[v] 0 (0,0)
theorem Rel.lt {gs:Gls} {w0:Base gs} {w:World} {ρ:Rho} {H:GH} (R:Rel w0 ρ H w) {h:Nat} {o:GO} (hg:H.get h=some o):h<H.n:=by
 rcases Nat.lt_or_ge h H.n with h'|h'
 ·exact h'
 ·obtain⟨l,hl,_⟩:=R.live h o hg
  rw[R.fresh h h']at hl;cases hl
def Does (P:Program) {gs:Gls} (w0:Base gs) (ρ:Rho) (s:Sem Value) (w:World) (g:GV) (H':GH):Prop:=∃v w' ρ',s.run P w = .ok v w'∧ρ.le ρ'∧Rel w0 ρ' H' w'∧Rl ρ' g v
def Rho.upd (ρ:Rho) (h:Nat) (l:Loc):Rho:=fun k=>if k=h then some l else ρ k
theorem Rho.le_upd {ρ:Rho} {h:Nat} {l:Loc} (hf:ρ h=none):ρ.le (ρ.upd h l):=fun k x hx=>by
 unfold Rho.upd
 by_cases e:k=h
 ·subst e;rw[hf]at hx;cases hx
 ·rw[if_neg e];exact hx
theorem Rel.new {gs:Gls} {w0:Base gs} {w w':World} {ρ:Rho} {H:GH} (R:Rel w0 ρ H w) {o:GO} {l:Loc} (he:Kept w0.O w0.w w') (hb:∀h o' l',H.get h=some o'->ρ h=some l'->w'.heap[l'.b]? = w.heap[l'.b]? ∧ l'.b≠l.b) (h0:w0.mine l.b)
    (ho:ObjOk (ρ.upd H.n l) w' l o) (hx:w'.heap[l.b]? = some l.x) (hlo:l.o=o:=by rfl):ρ.le (ρ.upd H.n l)∧Rel w0 (ρ.upd H.n l) (H.new o) w':=by
  have hle:ρ.le (ρ.upd H.n l):=Rho.le_upd (R.fresh _ (Nat.le_refl _))
  have hne:∀h o',H.get h=some o'->h≠H.n:=fun h o' hg=>Nat.ne_of_lt (R.lt hg)
  have hsame:∀h,h≠H.n->(ρ.upd H.n l) h=ρ h:=fun h hh=>by simp[Rho.upd,hh]
  have hself:(ρ.upd H.n l) H.n=some l:=by simp[Rho.upd]
  refine⟨hle,he,?_,?_,?_,?_,?_,fun i v e=>let ⟨l,a,b⟩:=R.env i v e;⟨l,hle _ _ a,b⟩⟩
  · intro h o' hg
    rw[GH.get_new]at hg
    by_cases e:h=H.n
    · subst e;rw[if_pos rfl]at hg;cases hg;exact⟨l,hself,h0,ho⟩
    · rw[if_neg e]at hg
      obtain⟨l',hl',hb',ho'⟩:=R.live h o' hg
      exact⟨l',by rw[hsame h e];exact hl',hb',ho'.move hle (hb h o' l' hg hl').1⟩
  · intro h h' o1 o2 l1 l2 hg hg' hl hl' hbb
    rw[GH.get_new]at hg hg'
    by_cases e:h=H.n
    · by_cases e':h'=H.n
      · rw[e,e']
      · rw[if_neg e']at hg'
        rw[hsame h' e']at hl'
        subst e;rw[hself]at hl;cases hl
        exact absurd hbb.symm (hb h' o2 l2 hg' hl').2
    · rw[if_neg e]at hg
      rw[hsame h e]at hl
      by_cases e':h'=H.n
      · subst e';rw[hself]at hl';cases hl'
        exact absurd hbb (hb h o1 l1 hg hl).2
      · rw[if_neg e']at hg'
        rw[hsame h' e']at hl'
        exact R.inj h h' o1 o2 l1 l2 hg hg' hl hl' hbb
  · intro h hh
    have : h ≠ H.n := by have : H.n + 1 ≤ h := hh
                         omega
    rw[hsame h this]
    exact R.fresh h (by have : H.n + 1 ≤ h := hh
                        omega)
  · intro h hh
    have hh:h<H.n+1:=hh
    by_cases e:h=H.n
    · subst e;exact⟨l,hself⟩
    · rw[hsame h e];exact R.dense h (by omega)
  · intro h v l' hv hl'
    rw[GH.ver_new]at hv
    by_cases e:h=H.n
    · subst e;rw[if_pos rfl]at hv;cases hv
      rw[hself]at hl';cases hl'
      exact⟨l,hself,hx,by rw[GH.get_new,if_pos rfl,hlo]⟩
    · rw[if_neg e]at hv
      rw[hsame h e]at hl'
      obtain⟨lv,h1,h2,h3⟩:=R.vers h v l' hv hl'
      obtain⟨p,hp,_⟩:=ob_some.1 (show ob (H.t.get h) _=some v from hv)
      exact⟨lv,hle _ _ h1,by rw[(hb h p.2 l' (by unfold GH.get;rw[hp];rfl) hl').1];exact h2,by rw[GH.get_new,if_neg e];exact h3⟩
theorem Rel.set {gs:Gls} {w0:Base gs} {w w':World} {ρ:Rho} {H:GH} (R:Rel w0 ρ H w) {h:Nat} {o o':GO} {l:Loc} {X:Obj} (hg:H.get h=some o) (hl:ρ h=some l) (he:Kept w0.O w0.w w') (hb:∀k,k≠l.b->w'.heap[k]? = w.heap[k]?) (ho:ObjOk ρ w' l o') (hx:w'.heap[l.b]? = some X):
  ρ.le (ρ.upd H.n ⟨l.b,l.off,l.size,X,o'⟩)∧Rel w0 (ρ.upd H.n ⟨l.b,l.off,l.size,X,o'⟩) (H.set h o') w':=by
 have hle:ρ.le (ρ.upd H.n ⟨l.b,l.off,l.size,X,o'⟩):=Rho.le_upd (R.fresh _ (Nat.le_refl _))
 have hsame:∀k,k≠H.n->(ρ.upd H.n ⟨l.b,l.off,l.size,X,o'⟩) k=ρ k:=fun k hk=>by simp[Rho.upd,hk]
 have hself:(ρ.upd H.n ⟨l.b,l.off,l.size,X,o'⟩) H.n=some ⟨l.b,l.off,l.size,X,o'⟩:=by simp[Rho.upd]
 have key:∀k x,(if k=h then some o' else H.get k)=some x->∃y,H.get k=some y:=fun k x hx=>by
  by_cases e:k=h
  ·subst e;exact⟨o,hg⟩
  ·rw[if_neg e]at hx;exact⟨x,hx⟩
 refine⟨hle,he,?_,?_,?_,?_,?_,fun i v e=>let ⟨l,a,b⟩:=R.env i v e;⟨l,hle _ _ a,b⟩⟩
 ·intro k x hk
  rw[GH.get_set]at hk
  by_cases e:k=h
  ·subst e;rw[if_pos rfl]at hk;cases hk
   obtain⟨l',hl',h0,_⟩:=R.live k o hg
   rw[hl]at hl';cases hl'
   exact⟨l,hle _ _ hl,h0,ho.move hle rfl⟩
  ·rw[if_neg e]at hk
   obtain⟨l',hl',h0,ho'⟩:=R.live k x hk
   refine⟨l',hle _ _ hl',h0,ho'.move hle (hb _ fun e'=>e (R.inj k h x o l' l hk hg hl' hl e'))⟩
 ·intro k k' o1 o2 l1 l2 h1 h2 hl1 hl2 hbb
  rw[GH.get_set]at h1 h2
  obtain⟨y1,hy1⟩:=key k o1 h1
  obtain⟨y2,hy2⟩:=key k' o2 h2
  rw[hsame k (Nat.ne_of_lt (R.lt hy1))]at hl1
  rw[hsame k' (Nat.ne_of_lt (R.lt hy2))]at hl2
  exact R.inj k k' y1 y2 l1 l2 hy1 hy2 hl1 hl2 hbb
 ·intro k hk
  have hk':H.n+1<=k:=hk
  rw[hsame k (by omega)]
  exact R.fresh k (by omega)
 ·intro k hk
  have hk:k<H.n+1:=hk
  by_cases e:k=H.n
  ·subst e;exact⟨_,hself⟩
  ·rw[hsame k e];exact R.dense k (by omega)
 ·intro k v l' hv hl'
  rw[GH.ver_set]at hv
  by_cases e:k=h
  ·subst e;rw[if_pos rfl]at hv;cases hv
   rw[hsame k (Nat.ne_of_lt (R.lt hg)),hl]at hl';cases hl'
   exact⟨_,hself,hx,by rw[GH.get_set,if_pos rfl]⟩
  ·rw[if_neg e]at hv
   obtain⟨p,hp,_⟩:=ob_some.1 (show ob (H.t.get k) _=some v from hv)
   have hgk:H.get k=some p.2:=by unfold GH.get;rw[hp];rfl
   rw[hsame k (Nat.ne_of_lt (R.lt hgk))]at hl'
   obtain⟨lv,h1,h2,h3⟩:=R.vers k v l' hv hl'
   exact⟨lv,hle _ _ h1,by rw[hb l'.b fun e'=>e (R.inj k h p.2 o l' l hgk hg hl' hl e')];exact h2,by rw[GH.get_set,if_neg e];exact h3⟩
theorem Rel.del {gs:Gls} {w0:Base gs} {w:World} {ρ:Rho} {H:GH} (R:Rel w0 ρ H w) (h:Nat):Rel w0 ρ (H.del h) w:=by
 have key:∀k x,(H.del h).get k=some x->H.get k=some x:=fun k x hx=>by
  rw[GH.get_del]at hx
  by_cases e:k=h
  ·rw[if_pos e]at hx;cases hx
  ·rw[if_neg e]at hx;exact hx
 exact⟨R.ext,fun k x hx=>R.live k x (key k x hx),fun k k' o1 o2 l1 l2 h1 h2=>R.inj k k' o1 o2 l1 l2 (key _ _ h1) (key _ _ h2),R.fresh,R.dense,fun k v l hv hl=>by
  rw[GH.ver_del]at hv
  by_cases e:k=h
  ·rw[if_pos e]at hv;cases hv
  ·rw[if_neg e]at hv
   obtain⟨lv,h1,h2,h3⟩:=R.vers k v l hv hl
   exact⟨lv,h1,h2,by rw[GH.get_del,if_neg e];exact h3⟩,R.env⟩
theorem Rel.ext' {gs:Gls} {w0:Base gs} {w w':World} {ρ:Rho} {H:GH} (R:Rel w0 ρ H w) (e:Ext w w'):Rel w0 ρ H w':=
 ⟨R.ext.trans e,fun h o hg=>let ⟨l,a,b,c⟩:=R.live h o hg;⟨l,a,b,c.move (Rho.le_refl _) (e.block _ c.lt)⟩,R.inj,R.fresh,R.dense,fun h v l hv hl=>by
  obtain⟨lv,h1,h2,h3⟩:=R.vers h v l hv hl
  exact⟨lv,h1,(by rw[e.block _ (Array.getElem?_eq_some_iff.1 h2).1];exact h2),h3⟩,R.env⟩
theorem Rel.mono {gs gs':Gls} {w0:Base gs} {w0':Base gs'} {w w':World} {ρ ρ':Rho} {H H':GH} (R:Rel w0 ρ H w) (R':Rel w0' ρ' H' w') (hle:ρ.le ρ'):H.n<=H'.n:=by
 rcases Nat.lt_or_ge H'.n H.n with h|h
 ·obtain⟨l,hl⟩:=R.dense _ h
  have:=R'.fresh _ (Nat.le_refl _)
  rw[hle _ _ hl]at this;cases this
 ·exact h
def Held (ρ:Rho) (H:GH) (k:Nat):Prop:=∃h o l,H.get h=some o∧ρ h=some l∧l.b=k
theorem Rel.glo {gs:Gls} {w0:Base gs} {w:World} {ρ:Rho} {H:GH} (R:Rel w0 ρ H w):GlsOk gs w (Held ρ H):=fun p hp=>by
 obtain⟨h1,h2⟩:=w0.ok p hp
 have hlt:p.1<w0.w.heap.size:=(Array.getElem?_eq_some_iff.1 h1).1
 refine⟨by rw[R.ext.block p.1 hlt h2];exact h1,fun⟨h,o,l,hg,hl,e⟩=> ?_⟩
 obtain⟨l',hl',hb,_⟩:=R.live h o hg
 rw[hl]at hl';cases hl'
 rw[e]at hb
 rcases hb with hb|hb
 ·omega
 ·exact h2 hb
def Rel.base {gs:Gls} {w0:Base gs} {w:World} {ρ:Rho} {H:GH} (R:Rel w0 ρ H w):Base gs:=⟨w,Held ρ H,R.glo⟩
def Base.of {gs:Gls} (w:World) (h:GlsOk gs w fun _=>False):Base gs:=⟨w,fun _=>False,h⟩
def noG:Gls:=⟨[],[]⟩
def Base.one (w:World):Base noG:= .of w fun _ h=>absurd h List.not_mem_nil
theorem Rel.rebase {gs:Gls} {w0:Base gs} {w:World} {ρ:Rho} {H:GH} (R:Rel w0 ρ H w):Rel R.base ρ H w:=
 ⟨Kept.refl _,fun h o hg=>let ⟨l,a,_,c⟩:=R.live h o hg;⟨l,a,.inr ⟨h,o,l,hg,a,rfl⟩,c⟩,R.inj,R.fresh,R.dense,R.vers,R.env⟩
theorem Rel.back {gs:Gls} {w0:Base gs} {w w':World} {ρ ρ':Rho} {H H':GH} (R:Rel w0 ρ H w) (R':Rel R.base ρ' H' w'):Rel w0 ρ' H' w'∧∀k,k<w.heap.size->¬Held ρ H k->w'.heap[k]? = w.heap[k]?:=by
 have hm:∀k,Held ρ H k->w0.mine k:=fun k ⟨h,o,l,hg,hl,e⟩=>by
  obtain⟨l',hl',hb,_⟩:=R.live h o hg
  rw[hl]at hl';cases hl'
  rw[<-e];exact hb
 refine⟨⟨⟨R'.ext.os.trans R.ext.os,R'.ext.tape.trans R.ext.tape,R'.ext.output.trans R.ext.output,Nat.le_trans R.ext.size R'.ext.size,fun k hk hO=> ?_⟩,fun h o hg=> ?_,R'.inj,R'.fresh,R'.dense,R'.vers,R'.env⟩,fun k hk hh=>R'.ext.block k hk hh⟩
 ·rw[R'.ext.block k (Nat.lt_of_lt_of_le hk R.ext.size) (fun hh=>by rcases hm k hh with h|h;exact absurd h (by omega);exact hO h)]
  exact R.ext.block k hk hO
 ·obtain⟨l,hl,hb,ho⟩:=R'.live h o hg
  refine⟨l,hl,?_,ho⟩
  rcases hb with hb|hb
  ·exact .inl (Nat.le_trans R.ext.size hb)
  ·exact hm _ hb
section
variable {P:Program} {tb:TB} {ρ:Rho} {V U W:Value} {v u t g:GV} {gs:Gls} {w0:Base gs} {w:World} {H H':GH}
theorem Rel.alloc (R:Rel w0 ρ H w) {cs:List GV} {a:Array Value} (T:TypeId) (hr:RlC ρ cs a):
  ∃ρ',ρ.le ρ'∧ρ'=ρ.upd H.n ⟨w.heap.size,0,a.size,.cells a T,.cells cs⟩∧Rel w0 ρ' (H.new (.cells cs)) (w.alloc (.cells a T)):=by
 have e:Ext w (w.alloc (.cells a T)):=(Below.refl _ _).alloc (Nat.le_refl _) _
 have h:=R.new (o:= .cells cs) (l:=⟨w.heap.size,0,a.size,.cells a T,.cells cs⟩) (R.ext.trans e) (fun h o' l' hg hl=>by
  obtain⟨l,hl',_,ho⟩:=R.live h o' hg
  rw[hl]at hl';cases hl'
  exact⟨e.block _ ho.lt,Nat.ne_of_lt ho.lt⟩) (.inl R.ext.size) (by
  refine⟨a,T,heap_alloc_new w _,rfl,by have:=hr.r.len;simp at this;simp[this],fun i g hg=> ?_⟩
  obtain⟨x,hx,hrx⟩:=hr.r.get hg
  rw[Array.getElem?_toList]at hx
  exact⟨x,by simpa using hx,hrx.le (Rho.le_upd (R.fresh _ (Nat.le_refl _))),getOne hr.one hx⟩) (heap_alloc_new w _)
 exact⟨_,h.1,rfl,h.2⟩
theorem vBox_ok {T:TypeId} (R:Rel w0 ρ H w) (hv:Rl ρ v V) (h:vBox v H=some (g,H')):Does P w0 ρ (Instr.box T V) w g H':=by
 obtain⟨vc,hc,h⟩:=ob_some.1 (show ob v.cells _=some (g,H')from h)
 rw[GH.newK_eq]at h;cases h
 obtain⟨vs,e,hr,h1⟩:=hv.cells hc
 obtain⟨ρ',hle,rfl,R'⟩:=R.alloc T (cs:=vc) (a:=V.cells) (by rw[e];exact⟨hr,h1⟩)
 refine⟨_,_,_,?_,hle,R',.ptr (l:=⟨w.heap.size,0,V.cells.size,.cells V.cells T,.cells vc⟩) 0 (by simp[Rho.upd])⟩
 simp[Instr.box,newVar,newRow]
theorem vAlloc_ok (hG:TabOk P tb) {T:TypeId} (R:Rel w0 ρ H w) (h:vAlloc tb T H=some (g,H')):Does P w0 ρ (Instr.alloc T true (.tuple #[])) w g H':=by
 obtain⟨zc,hz,h⟩:=ob_some.1 (show ob (zeroOf tb T) _=some (g,H')from h)
 rw[GH.newK_eq]at h;cases h
 obtain⟨d,hd,hT,hC⟩:=zeroOf_ok (ρ:=ρ) hG hz
 obtain⟨ρ',hle,rfl,R'⟩:=R.alloc T hC
 exact⟨_,_,_,run_alloc w hT,hle,R',.ptr (l:=⟨w.heap.size,0,d.zero.cells.size,.cells d.zero.cells T,.cells zc⟩) 0 (by simp[Rho.upd])⟩
theorem Rel.cells (R:Rel w0 ρ H w) {h:Nat} {cs:List GV} (hc:H.cells h=some cs) {l:Loc} (hl:ρ h=some l):ObjOk ρ w l (.cells cs):=by
 obtain⟨l',hl',_,ho⟩:=R.live h _ (GH.cells_eq.1 hc)
 rw[hl]at hl';cases hl';exact ho
theorem vLoad_ok (hG:TabOk P tb) {T:TypeId} (R:Rel w0 ρ H w) (hv:Rl ρ v V) (h:vLoad tb T v H=some g):∃(x:Value) (p:Nat×Nat) (l:Loc),v = .ptr p.1 p.2∧ρ p.1=some l∧(∃o,H.get p.1=some o)∧Rl ρ g x∧∀w',w'.heap[l.b]? = w.heap[l.b]? -> (Instr.loadAt T V).run P w' = .ok x w':=by
 obtain⟨p,hp,h⟩:=ob_some.1 (show ob v.asP _=some g from h)
 obtain⟨cs,hcs,h⟩:=ob_some.1 h
 obtain⟨t,ht,h⟩:=ob_some.1 h
 have hpe:=asP_eq hp
 have hg0:=GH.cells_eq.1 hcs
 rw[asP_eq hp]at hv
 obtain⟨l,hl,rfl⟩:=hv.ptr_inv
 obtain⟨cur,T',hb,hsz,hfit,hcell⟩:=R.cells hcs hl
 have hT:=hG.tab ht
 unfold ofCells at h
 cases ha:aggD t.desc with
 | true =>
  rw[ha]at h
  obtain⟨r,hs,h⟩:=ob_some.1 h
  cases h
  obtain⟨hbnd,rfl⟩:=slc_eq hs
  let vs:=((cur.toList.drop (l.off+p.2)).take t.size)
  have hlen:vs.length=t.size:=by simp[vs];omega
  have hrel:RlL ρ ((cs.drop p.2).take t.size) vs:=⟨by rw[hlen];simp;omega,fun i a b hai hbi=>by
   simp only[vs]at hbi
   rw[List.getElem?_take]at hai hbi
   by_cases hi:i<t.size
   ·rw[if_pos hi,List.getElem?_drop]at hai hbi
    obtain⟨x,h1,h2,_⟩:=hcell _ _ hai
    rw[Array.getElem?_toList,show l.off+p.2+i=l.off+(p.2+i) by omega,h1]at hbi
    cases hbi;exact h2
   ·rw[if_neg hi]at hai;cases hai⟩
  have hone:∀x∈vs,one x=true:=fun x hx=>by
   obtain⟨i,hi⟩:=List.mem_iff_getElem?.1 hx
   have hlt:=getElem?_lt hi
   have hai:((cs.drop p.2).take t.size)[i]? = some (cs[p.2+i]'(by omega)):=by
    rw[List.getElem?_take,if_pos (by omega),List.getElem?_drop,List.getElem?_eq_getElem (by omega)]
   simp only[vs]at hi
   rw[List.getElem?_take,if_pos (by omega),List.getElem?_drop,Array.getElem?_toList,show l.off+p.2+i=l.off+(p.2+i) by omega]at hi
   obtain⟨y,h1,_,h3⟩:=hcell (p.2+i) _ (List.getElem?_eq_getElem (by omega))
   rw[h1]at hi;cases hi;exact h3
  refine⟨_,p,l,hpe,hl,⟨_,hg0⟩,Rl.agg' hrel hone,fun w' hw'=> ?_⟩
  rw[hb]at hw'
  refine run_loadAll hT ha hlen (fun j x hx=> ?_)
  rw[add_none]
  have hlt:=getElem?_lt hx
  simp only[vs]at hx
  rw[List.getElem?_take,if_pos (by omega),List.getElem?_drop,Array.getElem?_toList]at hx
  simp[World.cell?,hw',hx]
 |false=>
  rw[ha]at h
  rw[cond_false,nth_eq]at h
  obtain⟨x,h1,h2,_⟩:=hcell _ _ h
  exact⟨x,p,l,hpe,hl,⟨_,hg0⟩,h2,fun w' hw'=>run_load1 hT ha (by rw[hb]at hw';simp[World.cell?,hw',h1])⟩
theorem vStore_ok (hG:TabOk P tb) {T:TypeId} (R:Rel w0 ρ H w) (hv:Rl ρ v V) (hu:Rl ρ u U) (h:vStore tb T v u H=some (g,H')):g = .un∧∃w' ρ',(Instr.storeAt T V U).run P w = .ok () w'∧ρ.le ρ'∧Rel w0 ρ' H' w':=by
 obtain⟨p,hp,h⟩:=ob_some.1 (show ob v.asP _=some (g,H')from h)
 obtain⟨cs,hcs,h⟩:=ob_some.1 h
 obtain⟨t,ht,h⟩:=ob_some.1 h
 obtain⟨uc,huc,h⟩:=ob_some.1 h
 obtain⟨hl1,h⟩:=bif_some.1 h
 obtain⟨h0,h⟩:=bif_some'.1 h
 obtain⟨c1,hput,h⟩:=ob_some.1 h
 rw[GH.setK_eq]at h
 cases h
 refine⟨rfl,?_⟩
 rw[asP_eq hp]at hv
 obtain⟨l,hl,rfl⟩:=hv.ptr_inv
 obtain⟨cur,T',hb,hsz,hfit,hcell⟩:=R.cells hcs hl
 obtain⟨us,eU,hus,hone⟩:=hu.cells huc
 have hT:=hG.tab ht
 have hlen:uc.length=t.size:=Nat.eq_of_beq_eq_true hl1
 have hul:uc.length=us.length:=hus.len
 have hne:uc≠[]:=by intro e;rw[e]at hlen;simp at hlen;rw[<-hlen]at h0;cases h0
 obtain⟨p1,p2,p3⟩:=gput_eq hput
 have p1:=p1 hne
 have hst:=run_storeCells_at P l.b (l.off+p.2) T' us 0 cur w hb (by omega) (fun x hx=>one_oneCell (hone x hx))
 simp only[Nat.add_zero]at hst
 refine⟨w.setRow l.b (cur.toList.take (l.off+p.2)++us++cur.toList.drop (l.off+p.2+us.length)).toArray,_,?_,R.set (GH.cells_eq.1 hcs) hl ?_ (fun k hk=>setRow_other w l.b k _ hk) ?_ (setRow_heap w l.b _ _ T' _ hb)⟩
 ·have hs:=hT.run_size w
  simp only[Instr.storeAt,Instr.sureAddr,storeVar,eU]
  have e:us.toArray.size=t.size:=by simp;omega
  simp[hs,e,hst]
 ·obtain⟨l',hl',hbase,_⟩:=R.live _ _ (GH.cells_eq.1 hcs)
  rw[hl]at hl';cases hl'
  exact⟨R.ext.os,R.ext.tape,R.ext.output,by simpa using R.ext.size,fun k hk hO=>by
   rw[setRow_other w l.b k _ (fun e=>by subst e;rcases hbase with hbase|hbase;exact absurd hbase (by omega);exact hO hbase)];exact R.ext.block k hk hO⟩
 ·refine⟨_,T',setRow_heap w l.b _ _ T' _ hb,?_,by omega,fun i x hx=> ?_⟩
  ·simp;omega
  ·rw[p3 i]at hx
   have hcl:cur.toList.length=cur.size:=by simp
   have key:(cur.toList.take (l.off+p.2)++us++cur.toList.drop (l.off+p.2+us.length)).toArray[l.off+i]? = if p.2<=i∧i<p.2+us.length then us[i - p.2]? else cur[l.off+i]?:=by
    rw[List.getElem?_toArray,List.append_assoc]
    by_cases hi:i<p.2
    ·rw[if_neg (by omega),List.getElem?_append_left (by simp;omega),List.getElem?_take,if_pos (by omega),Array.getElem?_toList]
    ·rw[List.getElem?_append_right (by simp;omega),List.length_take]
     have e1:min (l.off+p.2) cur.toList.length=l.off+p.2:=by omega
     rw[e1]
     by_cases hi2:i<p.2+us.length
     ·rw[if_pos (by omega),List.getElem?_append_left (by omega)]
      congr 1;omega
     ·rw[if_neg (by omega),List.getElem?_append_right (by omega),List.getElem?_drop,Array.getElem?_toList]
      congr 1;omega
   by_cases hi:p.2<=i∧i<p.2+uc.length
   ·rw[if_pos hi]at hx
    obtain⟨y,hy,hr⟩:=hus.get hx
    exact⟨y,by rw[key,if_pos (by omega)];exact hy,hr,hone y (List.mem_of_getElem? hy)⟩
   ·rw[if_neg hi]at hx
    obtain⟨y,hy,hr⟩:=hcell i x hx
    exact⟨y,by rw[key,if_neg (by omega)];exact hy,hr⟩
end
end Go.Gx
end
section
namespace Go.Gx
open Go Go.Sx Go.RowKit
section
variable {P:Program} {tb:TB} {ρ:Rho} {V U W:Value} {v u t g:GV} {gs:Gls} {w0:Base gs} {w:World} {H H':GH}

theorem rep_len (z:List GV):∀n,(rep z n).length=n*z.length
 |0=>by show([]:List GV).length=_;simp
 |n+1=>by
  have:rep z (n+1)=z++rep z n:=rfl
  rw[this,List.length_append,rep_len z n,Nat.add_mul];omega
theorem rep_get (z:List GV) (hz:0<z.length):∀(n i:Nat),i<n*z.length->(rep z n)[i]? = z[i%z.length]?
 |0,i,h=>by simp at h
 |n+1,i,h=>by
  have:rep z (n+1)=z++rep z n:=rfl
  rw[this]
  by_cases hi:i<z.length
  ·rw[List.getElem?_append_left hi,Nat.mod_eq_of_lt hi]
  ·rw[List.getElem?_append_right (by omega),rep_get z hz n (i - z.length) (by have:(n+1)*z.length=n*z.length+z.length:=Nat.succ_mul n z.length;omega),<-Nat.mod_eq_sub_mod (by omega)]
theorem rep_rel {zc:List GV} {z:Array Value} (hC:RlC ρ zc z) (h0:0<zc.length) (n:Nat):RlC ρ (rep zc n) ((Array.range (n*zc.length)).map (z[· % z.size]!)):=by
 have hl:zc.length=z.size:=by have:=hC.r.len;simpa using this
 have hz:0<z.size:=by omega
 have hget:∀i,i<n*zc.length->z[i%z.size]? = some (z[i%z.size]!):=fun i _=>by
  have hm:i%z.size<z.size:=Nat.mod_lt _ hz
  rw[getElem!_pos z (i%z.size) hm];simp
 refine⟨⟨by simp[rep_len],fun i a b ha hb=> ?_⟩,fun x hx=> ?_⟩
 ·have hi:=getElem?_lt ha
  rw[rep_len]at hi
  rw[rep_get zc h0 n i hi]at ha
  have hb':some (z[i%z.size]!)=some b:=by
   rw[<-hb,Array.getElem?_toList]
   simp[hi]
  cases hb'
  refine hC.r.at' (i%zc.length) a _ ha ?_
  rw[Array.getElem?_toList,hl]
  exact hget i hi
 ·simp only[Array.toList_map,List.mem_map]at hx
  obtain⟨i,hi,rfl⟩:=hx
  have hi:i<n*zc.length:=by simpa using hi
  exact getOne hC.one (hget i hi)
theorem gfillA_len {sz:Nat}:∀{l:List (Nat×GV)} {r0 cs:List GV},gfillA sz l r0=some cs->cs.length=r0.length
 | [],r0,cs,h=>by cases h;rfl
 |p::l,r0,cs,h=>by
  obtain⟨cc,hcc,h⟩:=ob_some.1 (show ob p.2.cells (fun cc=>bif Nat.beq cc.length sz then(bif Nat.beq sz 0 then none else ob (gput cc (Nat.mul p.1 sz) r0) (gfillA sz l))else none)=some cs from h)
  obtain⟨_,h⟩:=bif_some.1 h
  obtain⟨_,h⟩:=bif_some'.1 h
  obtain⟨c1,hg,h⟩:=ob_some.1 h
  rw[gfillA_len h]
  exact(gput_eq hg).2.1
theorem vBuildS_ok (hG:TabOk P tb) {T:TypeId} {n:Nat} {l:List (Nat×GV)} {parts:List (Nat×Value)} (R:Rel w0 ρ H w) (hp:RlP ρ l parts) (h:vBuildS tb T n l H=some (g,H')):Does P w0 ρ (Instr.buildSlice T n parts.toArray) w g H':=by
 obtain⟨te,hte,h⟩:=ob_some.1 (show ob (elemOf tb T) _=some (g,H')from h)
 obtain⟨zc,hz,h⟩:=ob_some.1 h
 obtain⟨hlen,h⟩:=bif_some.1 h
 obtain⟨hbig,h⟩:=bif_some.1 h
 obtain⟨h0,h⟩:=bif_some'.1 h
 obtain⟨cs,hfill,h⟩:=ob_some.1 h
 rw[GH.newK_eq]at h;cases h
 obtain⟨⟨d,hd,hde⟩,hE,htab⟩:=elemOf_ok hG hte
 obtain⟨dz,hdz,_,hC⟩:=zeroOf_ok (ρ:=ρ) hG hz
 rw[htab]at hdz;cases hdz
 have hlen:zc.length=te.2.size:=Nat.eq_of_beq_eq_true hlen
 have h0:te.2.size≠0:=fun e=>by rw[e]at h0;cases h0
 have hbig:n*te.2.size<16777216:=by simpa [Nat.blt_eq]using hbig
 have hrep:=rep_rel hC (by omega) n
 rw[hlen]at hrep
 obtain⟨a',f1,f2⟩:=gfillA_ok hp hrep hfill
 obtain⟨ρ',hle,rfl,R'⟩:=R.alloc te.1 f2
 have hsz:a'.size=n*te.2.size:=by
  have e1:=f2.r.len
  have:cs.length=(rep zc n).length:=gfillA_len hfill
  rw[this,rep_len,hlen]at e1
  simp at e1;omega
 refine⟨_,_,_,?_,hle,R',.sl (l:=⟨w.heap.size,0,a'.size,.cells a' te.1,.cells cs⟩) (cap:=n) (A:=⟨w.heap.size,0,none⟩) (by simp[Rho.upd]) (Nat.le_refl _) (.inr ⟨rfl,by simp[hsz]⟩)⟩
 have hu:=hd.run_und w
 rw[hde]at hu
 by_cases hn:n*te.2.size=0
 ·have hz0:n=0:=by rcases Nat.mul_eq_zero.1 hn with h|h;exact h;exact absurd h h0
  subst hz0
  have e0:(Array.range (0*te.2.size)).map (te.2.zero.cells[· % te.2.zero.cells.size]!)=(#[]:Array Value):=by simp
  rw[e0]at f1
  have e1:(Array.range 0).map (fun _=>(default:Value)) = #[]:=by simp
  simp[Instr.buildSlice,hu,hE.run_size w,newRow]
  simp[e1,f1]
 ·simp[Instr.buildSlice,hu,hE.run_size w,hE.run_zero w,hn,f1,newRow,show¬(16777216<n*te.2.size) by omega]
theorem vMake_ok (hG:TabOk P tb) {T:TypeId} (R:Rel w0 ρ H w) (hv:Rl ρ v V) (hu:Rl ρ u U) (h:vMake tb T v u H=some (g,H')):Does P w0 ρ (Instr.makeSlice T V U) w g H':=by
 obtain⟨te,hte,h⟩:=ob_some.1 (show ob (elemOf tb T) _=some (g,H')from h)
 obtain⟨zc,hz,h⟩:=ob_some.1 h
 obtain⟨k,hk,h⟩:=ob_some.1 h
 obtain⟨c,hc,h⟩:=ob_some.1 h
 obtain⟨heq,h⟩:=bif_some.1 h
 obtain⟨n,hn,h⟩:=ob_some.1 h
 obtain⟨hlen,h⟩:=bif_some.1 h
 obtain⟨hby,h⟩:=bif_some.1 h
 obtain⟨hn2,h⟩:=bif_some.1 h
 obtain⟨h0,h⟩:=bif_some'.1 h
 rw[fc_eq,GH.newK_eq]at h;cases h
 obtain⟨⟨d,hd,hde⟩,hE,htab⟩:=elemOf_ok hG hte
 obtain⟨dz,hdz,_,hC⟩:=zeroOf_ok (ρ:=ρ) hG hz
 rw[htab]at hdz;cases hdz
 have hlen:zc.length=te.2.size:=Nat.eq_of_beq_eq_true hlen
 have h0:te.2.size≠0:=fun e=>by rw[e]at h0;cases h0
 have hby:n*te.2.bytes<16777216:=by simpa [Nat.blt_eq]using hby
 have hn2:n<16777216:=by simpa [Nat.blt_eq]using hn2
 rw[asI_eq hk]at hv
 rw[asI_eq hc]at hu
 rw[eqI_eq]at heq
 have heq:=of_decide_eq_true heq
 rw[hv.int_inv,hu.int_inv,<-heq,asN_eq hn]
 have hrep:=rep_rel hC (by omega) n
 rw[hlen]at hrep
 obtain⟨ρ',hle,rfl,R'⟩:=R.alloc te.1 hrep
 obtain⟨iE,hiE,hs,hb,hze⟩:=hE.info
 have hund:=hd.und
 rw[hde]at hund
 have hbb:(iE.bytes:Int)*(n:Int)<=281474976710656:=by
  have e:(te.2.bytes:Int)*(n:Int)=((n*te.2.bytes:Nat):Int):=by rw[Nat.mul_comm];simp
  rw[hb,e];omega
 have hr:=run_make (P:=P) w T te.1 iE te.2.zero hund hiE hze k.1 c.1 n n (by omega) (Int.le_refl _) hbb (by omega)
 refine⟨_,_,_,?_,hle,R',.sl (l:=⟨w.heap.size,0,((Array.range (n*te.2.size)).map (te.2.zero.cells[· % te.2.zero.cells.size]!)).size,.cells ((Array.range (n*te.2.size)).map (te.2.zero.cells[· % te.2.zero.cells.size]!)) te.1,.cells (rep zc n)⟩) (cap:=n) (A:=⟨w.heap.size,0,none⟩) (by simp[Rho.upd]) (Nat.le_refl _) (.inr ⟨rfl,by simp⟩)⟩
 rw[hr]
 simp[madeCells,hs]

theorem vB_ok {o:Option GV} {O:Option Value} {d n:Nat} (hr:(o=none∧O=none)∨∃g x,o=some g∧O=some x∧Rl ρ g x) (h:vB o d=some n):(o=none∧O=none∧n=d)∨∃k:IntKind,O=some (.int k n):=by
 rcases hr with⟨rfl,rfl⟩|⟨g,x,rfl,rfl,hx⟩
 ·cases h;exact .inl ⟨rfl,rfl,rfl⟩
 ·obtain⟨a,ha,h⟩:=ob_some.1 (show ob g.asI _=some n from h)
  rw[asI_eq ha]at hx
  exact .inr ⟨a.1,by rw[hx.int_inv,asN_eq h]⟩
def RlO (ρ:Rho) (o:Option GV) (O:Option Value):Prop:=(o=none∧O=none)∨∃g x,o=some g∧O=some x∧Rl ρ g x
theorem run_bounds {sl:Bool} {len cap l h:Nat} {lo hi:Option GV} {LO HI:Option Value} (hlo:RlO ρ lo LO) (hhi:RlO ρ hi HI) (h1:vB lo 0=some l) (h2:vB hi len=some h) (hle:l<=h) (hc:h<=cap) (w:World):
  (Instr.sliceBounds sl len cap LO HI none).run P w = .ok (l,h,cap) w:=by
 rcases vB_ok hlo h1 with⟨_,rfl,rfl⟩|⟨k1,rfl⟩<;>rcases vB_ok hhi h2 with⟨_,rfl,rfl⟩|⟨k2,rfl⟩
 ·simp[Instr.sliceBounds]
 ·simp[Instr.sliceBounds,Instr.sliceBound,asIntOf,hc]
 ·simp[Instr.sliceBounds,Instr.sliceBound,asIntOf,hle]
 ·simp[Instr.sliceBounds,Instr.sliceBound,asIntOf,hle,hc]
theorem vSlice_ok (hG:TabOk P tb) {T:TypeId} {lo hi:Option GV} {LO HI:Option Value} (R:(∃(w0:Base gs) (w:World),Rel w0 ρ H w)∨∀t,tb T=some t->tdA t.desc=none) (hv:Rl ρ v V) (hlo:RlO ρ lo LO) (hhi:RlO ρ hi HI) (h:vSlice tb T v lo hi H=some g):Comp P ρ (Instr.sliceAt T V LO HI none) g:=by
 obtain⟨l,hl,h⟩:=ob_some.1 (show ob (vB lo 0) _=some g from h)
 obtain⟨t,ht,h⟩:=ob_some.1 h
 have hT:=hG.tab ht
 cases hs:v.asStr with
 | some s =>
  rw[hs]at h
  obtain⟨e,he,h⟩:=ob_some.1 (show ob (vB hi s.2) _=some g from h)
  obtain⟨hd,h⟩:=bif_some.1 h
  obtain⟨hle,h⟩:=bif_some.1 (show(bif Nat.ble l e then _ else none)=some g from h)
  obtain⟨hlen,h⟩:=bif_some.1 h
  simp only[sn_eq]at h
  cases h
  have hle:l<=e:=by simpa using hle
  have hlen:e<=s.2:=by simpa using hlen
  rw[asStr_eq hs]at hv
  obtain⟨r,rfl,e1,e2⟩:=hv.str_inv
  have hsz:r.size=s.2:=by rw[e2];exact Lib.size_eq r
  have hx:=Lib.extract_data r l e
  refine⟨.string (r.extract l e),?_,fun w=> ?_⟩
  ·have:Rl ρ (.str (encB (bytesOfV (r.extract l e))) (bytesOfV (r.extract l e)).length) (.string (r.extract l e)):= .str _
   have e3:bytesOfV (r.extract l e)=((bytesOfV r).drop l).take (e - l):=hx
   rw[e3]at this
   rw[e1,encB_sub]
   have e4:(((bytesOfV r).drop l).take (e - l)).length=Nat.sub e l:=by
    simp only[List.length_take,List.length_drop,<-e2]
    show _=e - l
    omega
   rw[e4]at this
   exact this
  ·have hu:=hT.run_und w
   rw[tdStr_eq hd]at hu
   have hb:=run_bounds (P:=P) (sl:=false) (cap:=s.2) hlo hhi hl he hle hlen w
   simp[Instr.sliceAt,hu,Instr.slice,hsz,hb]
 | none =>
  rw[hs]at h
  cases hS:v.asS with
  | some s =>
   simp only[hS]at h
   obtain⟨E,hE,h⟩:=ob_some.1 (show ob (tdS t.desc) _=some g from h)
   obtain⟨te,hte,h⟩:=ob_some.1 h
   obtain⟨e,he,h⟩:=ob_some.1 h
   obtain⟨hsz,h⟩:=bif_some.1 (show(bif Nat.beq te.size s.2.2.2 then _ else none)=some g from h)
   obtain⟨hle,h⟩:=bif_some.1 h
   obtain⟨hlen,h⟩:=bif_some.1 h
   simp only[sn_eq]at h
   cases h
   have hsz:te.size=s.2.2.2:=Nat.eq_of_beq_eq_true hsz
   have hle:l<=e:=by simpa using hle
   have hlen:e<=s.2.2.1:=by simpa using hlen
   rw[asS_eq hS]at hv
   obtain⟨lc,cap,A,hlc,rfl,hc,ha⟩:=hv.sl_inv
   refine⟨.slice (if cap=l then some A else(some A).map (·.add (l*te.size))) (e - l) (cap - l),?_,fun w=> ?_⟩
   ·have e1:(if cap=l then some A else(some A).map (·.add (l*te.size)))=some (if cap=l then A else A.add (l*te.size)):=by split<;>rfl
    rw[e1]
    refine .sl hlc (show e - l<=cap - l by omega) ?_
    by_cases hcl:cap - l=0
    ·exact .inl hcl
    ·right
     rw[if_neg (by omega)]
     rcases ha with ha|⟨rfl,hb⟩
     ·omega
     ·rw[add_none]
      refine⟨by show _=(⟨lc.b,lc.off+(s.2.1+l*te.size),none⟩:Addr);rw[Nat.add_assoc],?_⟩
      have:cap*s.2.2.2=l*te.size+(cap - l)*te.size:=by rw[<-hsz,<-Nat.add_mul];congr 1;omega
      show lc.off+(s.2.1+l*te.size)+(cap - l)*te.size<=lc.size
      omega
   ·have hu:=hT.run_und w
    rw[tdS_eq hE]at hu
    have hb:=run_bounds (P:=P) (sl:=true) (cap:=cap) hlo hhi hl he hle (by omega) w
    simp[Instr.sliceAt,hu,Instr.slice,hb,(hG.tab hte).run_size w]
  | none =>
   simp only[hS]at h
   cases hz:v.isSnil with
   |true=>
    rw[hz]at h
    obtain⟨E,hE,h⟩:=ob_some.1 (show ob (tdS t.desc) _=some g from h)
    obtain⟨te,hte,h⟩:=ob_some.1 h
    obtain⟨e,he,h⟩:=ob_some.1 h
    obtain⟨h0,h⟩:=bif_some.1 h
    obtain⟨h1,h⟩:=bif_some.1 h
    cases h
    have h0:l=0:=Nat.eq_of_beq_eq_true h0
    have h1:e=0:=Nat.eq_of_beq_eq_true h1
    subst h0 h1
    rw[isSnil_eq hz]at hv
    rw[hv.snil_inv]
    refine⟨_,.snil,fun w=> ?_⟩
    have hu:=hT.run_und w
    rw[tdS_eq hE]at hu
    have hb:=run_bounds (P:=P) (sl:=true) (len:=0) (cap:=0) hlo hhi hl he (Nat.le_refl _) (Nat.le_refl _) w
    simp[Instr.sliceAt,hu,Instr.slice,hb,(hG.tab hte).run_size w]
   |false=>
   rw[hz]at h
   obtain⟨p,hp,h⟩:=ob_some.1 (show ob v.asP _=some g from h)
   obtain⟨E,hE,h⟩:=ob_some.1 h
   obtain⟨te,hte,h⟩:=ob_some.1 h
   obtain⟨e,he,h⟩:=ob_some.1 h
   obtain⟨cs,hcs,h⟩:=ob_some.1 h
   obtain⟨hfit,h⟩:=bif_some.1 h
   obtain⟨hle,h⟩:=bif_some.1 (show(bif Nat.ble l e then _ else none)=some g from h)
   obtain⟨hlen,h⟩:=bif_some.1 h
   obtain⟨h0,h⟩:=bif_some'.1 h
   simp only[sn_eq]at h
   cases h
   have hfit:p.2+E.1*te.size<=cs.length:=by simpa using hfit
   have hle:l<=e:=by simpa using hle
   have hlen:e<=E.1:=by simpa using hlen
   rw[asP_eq hp]at hv
   obtain⟨lc,hlc,rfl⟩:=hv.ptr_inv
   rcases R with⟨w0,w,R⟩|R
   rotate_left
   ·rw[R t ht]at hE;cases hE
   obtain⟨cur,T',hb,hcs2,hfit2,_⟩:=R.cells hcs hlc
   refine⟨.slice (some (if E.1=l then⟨lc.b,lc.off+p.2,none⟩else Addr.add ⟨lc.b,lc.off+p.2,none⟩ (l*te.size))) (e - l) (E.1 - l),?_,fun w=> ?_⟩
   ·refine .sl hlc (show e - l<=E.1 - l by omega) ?_
    by_cases hcl:E.1 - l=0
    ·exact .inl hcl
    ·right
     rw[if_neg (by omega),add_none]
     refine⟨by show _=(⟨lc.b,lc.off+(p.2+l*te.size),none⟩:Addr);rw[Nat.add_assoc],?_⟩
     have:E.1*te.size=l*te.size+(E.1 - l)*te.size:=by rw[<-Nat.add_mul];congr 1;omega
     show lc.off+(p.2+l*te.size)+(E.1 - l)*te.size<=lc.size
     omega
   ·have hu:=hT.run_und w
    rw[tdA_eq hE]at hu
    have hb:=run_bounds (P:=P) (sl:=false) (cap:=E.1) hlo hhi hl he hle hlen w
    simp[Instr.sliceAt,hu,Instr.sureAddr,hb,(hG.tab hte).run_size w]
end
end Go.Gx
end
section
namespace Go.Gx
open Go Go.Sx Go.RowKit
section
variable {P:Program} {tb:TB} {ρ:Rho} {V U W:Value} {v u t g:GV} {gs:Gls} {w0:Base gs} {w:World} {H H':GH}

structure Cont (ρ:Rho) (w:World) (sz n:Nat) (r:List GV) (V:Value) (ns:List Value):Prop where
 rel:RlL ρ r ns
 len:ns.length=n*sz
 one:∀x∈ns,Go.Sx.one x=true
 val:∃base cap,V = .slice base n cap∧n<=cap∧((base=none∧n=0∧cap=0)∨∃A,base=some A∧∀(j:Nat) x,ns[j]? = some x->w.cell? (A.add j)=some x)
theorem content_ok (R:Rel w0 ρ H w) {sz:Nat} {p:Nat×List GV} (hv:Rl ρ v V) (h:content H sz v=some p):∃ns,Cont ρ w sz p.1 p.2 V ns:=by
 unfold content at h
 cases hz:v.isSnil with
 |true=>
  rw[hz]at h;cases h
  rw[isSnil_eq hz]at hv
  exact⟨[],.nil,by simp,fun x hx=>by simp at hx,none,0,hv.snil_inv,Nat.le_refl _,.inl ⟨rfl,rfl,rfl⟩⟩
 | false =>
  rw[hz]at h
  obtain⟨s,hs,h⟩:=ob_some.1 (show ob v.asS _=some p from h)
  obtain⟨hsz,h⟩:=bif_some.1 h
  obtain⟨cs,hcs,h⟩:=ob_some.1 h
  obtain⟨r,hr,h⟩:=ob_some.1 h
  cases h
  have hsz:s.2.2.2=sz:=Nat.eq_of_beq_eq_true hsz
  obtain⟨hb,rfl⟩:=slc_eq hr
  have hb:s.2.1+s.2.2.1*sz<=cs.length:=hb
  rw[asS_eq hs]at hv
  obtain⟨l,cap,A,hl,rfl,hc,ha⟩:=hv.sl_inv
  obtain⟨cur,T,hh,hsize,hfit,hcell⟩:=R.cells hcs hl
  let ns:=(cur.toList.drop (l.off+s.2.1)).take (s.2.2.1*sz)
  have hlen:ns.length=s.2.2.1*sz:=by simp[ns];omega
  have hrel:RlL ρ ((cs.drop s.2.1).take (s.2.2.1*sz)) ns:=⟨by rw[hlen];simp;omega,fun i a b hai hbi=>by
   simp only[ns]at hbi
   rw[List.getElem?_take]at hai hbi
   by_cases hi:i<s.2.2.1*sz
   ·rw[if_pos hi,List.getElem?_drop]at hai hbi
    obtain⟨x,h1,h2,_⟩:=hcell _ _ hai
    rw[Array.getElem?_toList,show l.off+s.2.1+i=l.off+(s.2.1+i) by omega,h1]at hbi
    cases hbi;exact h2
   ·rw[if_neg hi]at hai;cases hai⟩
  have hnx:∀(j:Nat) x,ns[j]? = some x->j<s.2.2.1*sz∧cur[l.off+(s.2.1+j)]? = some x:=fun j x hx=>by
   have hlt:=getElem?_lt hx
   simp only[ns]at hx
   rw[List.getElem?_take,if_pos (by omega),List.getElem?_drop,Array.getElem?_toList,show l.off+s.2.1+j=l.off+(s.2.1+j) by omega]at hx
   exact⟨by omega,hx⟩
  refine⟨ns,hrel,hlen,fun x hx=> ?_,_,cap,rfl,hc,.inr ⟨A,rfl,fun j x hx=> ?_⟩⟩
  ·obtain⟨i,hi⟩:=List.mem_iff_getElem?.1 hx
   obtain⟨h1,h2⟩:=hnx i x hi
   obtain⟨y,h3,_,h4⟩:=hcell (s.2.1+i) _ (List.getElem?_eq_getElem (by omega))
   rw[h2]at h3;cases h3;exact h4
  ·obtain⟨h1,h2⟩:=hnx j x hx
   rcases ha with ha|⟨rfl,_⟩
   ·have:s.2.2.1=0:=by omega
    rw[this]at h1;simp at h1
   ·rw[add_none,show l.off+s.2.1+j=l.off+(s.2.1+j) by omega]
    simp[World.cell?,hh,h2]
theorem Cont.src {sz n:Nat} {r:List GV} {ns:List Value} (h:Cont ρ w sz n r V ns) {T E:TypeId} (hu:P.underlying T=some (.slice E)):Src P sz T V n ns w:=by
 obtain⟨base,cap,rfl,_,hh⟩:=h.val
 have hone:∀x∈ns,x.oneCell'=true:=fun x hx=>one_oneCell (h.one x hx)
 rcases hh with⟨rfl,rfl,rfl⟩|⟨A,rfl,hc⟩
 ·have:ns=[]:=List.eq_nil_of_length_eq_zero (by have:=h.len;simpa using this)
  subst this
  exact Src.ofNil w hu 0
 ·exact Src.ofSlice w hu A n cap ns h.len hc hone
theorem Cont.old {sz n:Nat} {r:List GV} {ns:List Value} (h:Cont ρ w sz n r V ns):(Builtin.firstCells sz n V).run P w.drew = .ok ns.toArray w.drew:=by
 obtain⟨base,cap,rfl,_,hh⟩:=h.val
 rcases hh with⟨rfl,rfl,rfl⟩|⟨A,rfl,hc⟩
 ·have:ns=[]:=List.eq_nil_of_length_eq_zero (by have:=h.len;simpa using this)
  subst this
  exact run_firstCells_none w.drew sz 0 0 0
 ·exact run_firstCells_some w.drew sz n A n cap ns h.len hc
theorem Rel.alloc' (R:Rel w0 ρ H w) {cs:List GV} {a:Array Value} (T:TypeId) (hl:cs.length<=a.size) (hr:∀(i:Nat) g,cs[i]? = some g->∃x,a[i]? = some x∧Rl ρ g x∧one x=true):
  ∃ρ',ρ.le ρ'∧ρ'=ρ.upd H.n ⟨w.heap.size,0,a.size,.cells a T,.cells cs⟩∧Rel w0 ρ' (H.new (.cells cs)) (w.alloc (.cells a T)):=by
 have e:Ext w (w.alloc (.cells a T)):=(Below.refl _ _).alloc (Nat.le_refl _) _
 have h:=R.new (o:= .cells cs) (l:=⟨w.heap.size,0,a.size,.cells a T,.cells cs⟩) (R.ext.trans e) (fun h o' l' hg hl=>by
  obtain⟨l,hl',_,ho⟩:=R.live h o' hg
  rw[hl]at hl';cases hl'
  exact⟨e.block _ ho.lt,Nat.ne_of_lt ho.lt⟩) (.inl R.ext.size) (by
  refine⟨a,T,heap_alloc_new w _,rfl,by simpa using hl,fun i g hg=> ?_⟩
  obtain⟨x,hx,hrx,h1⟩:=hr i g hg
  exact⟨x,by simpa using hx,hrx.le (Rho.le_upd (R.fresh _ (Nat.le_refl _))),h1⟩) (heap_alloc_new w _)
 exact⟨_,h.1,rfl,h.2⟩
theorem content_sl {sz:Nat} {p:Nat×List GV} {s:Nat×Nat×Nat×Nat} (h:content H sz v=some p) (hs:v.asS=some s):s.2.2.2=sz∧∃cs,H.cells s.1=some cs∧s.2.1+s.2.2.1*sz<=cs.length∧p.1=s.2.2.1:=by
 unfold content at h
 have hnz:v.isSnil=false:=by rw[asS_eq hs];rfl
 rw[hnz]at h
 obtain⟨s',hs',h⟩:=ob_some.1 (show ob v.asS _=some p from h)
 rw[hs]at hs';cases hs'
 obtain⟨hsz,h⟩:=bif_some.1 h
 obtain⟨cs,hcs,h⟩:=ob_some.1 h
 obtain⟨r,hr,h⟩:=ob_some.1 h
 cases h
 exact⟨Nat.eq_of_beq_eq_true hsz,cs,hcs,(slc_eq hr).1,rfl⟩
theorem app_place (R:Rel w0 ρ H w) {hh off k sz m cap:Nat} {l:Loc} {cs p2 q2:List GV} {ns1 ns2:List Value} (hcs:H.cells hh=some cs) (hl:ρ hh=some l) (c1:Cont ρ w sz k p2 (.slice (some ⟨l.b,l.off+off,none⟩) k cap) ns1)
  (r2:RlL ρ q2 ns2) (l2:ns2.length=m*sz) (o2:∀x∈ns2,one x=true) (hroom:k+m<=cap) (hbound:l.off+off+cap*sz<=l.size):
  ∃cur T',w.heap[l.b]? = some (.cells cur T' (0,0))∧l.off+off+cap*sz<=cur.size∧ρ.le (ρ.upd H.n ⟨l.b,l.off+off,l.size,(.cells (cur.toList.take (l.off+off+k*sz)++ns2++cur.toList.drop (l.off+off+k*sz+ns2.length)).toArray T'),.cells (p2++q2)⟩)∧
   Rel w0 (ρ.upd H.n ⟨l.b,l.off+off,l.size,(.cells (cur.toList.take (l.off+off+k*sz)++ns2++cur.toList.drop (l.off+off+k*sz+ns2.length)).toArray T'),.cells (p2++q2)⟩) ((H.del hh).new (.cells (p2++q2))) (w.setRow l.b (cur.toList.take (l.off+off+k*sz)++ns2++cur.toList.drop (l.off+off+k*sz+ns2.length)).toArray):=by
 obtain⟨cur,T',hb,hsize,hfit,hcell⟩:=R.cells hcs hl
 have hmul:k*sz+m*sz<=cap*sz:=by rw[<-Nat.add_mul];exact Nat.mul_le_mul_right _ hroom
 have hcl:cur.toList.length=cur.size:=by simp
 obtain⟨l0,hl0,hbase0,_⟩:=R.live _ _ (GH.cells_eq.1 hcs)
 rw[hl]at hl0;cases hl0
 have l1:=c1.len
 have e1:p2.length=k*sz:=by rw[c1.rel.len];exact l1
 have e2:q2.length=m*sz:=by rw[r2.len];exact l2
 have hnew:=(R.del hh).new (o:= .cells (p2++q2)) (l:=⟨l.b,l.off+off,l.size,(.cells (cur.toList.take (l.off+off+k*sz)++ns2++cur.toList.drop (l.off+off+k*sz+ns2.length)).toArray T'),.cells (p2++q2)⟩)
  (w':=w.setRow l.b (cur.toList.take (l.off+off+k*sz)++ns2++cur.toList.drop (l.off+off+k*sz+ns2.length)).toArray)
  ⟨R.ext.os,R.ext.tape,R.ext.output,by simpa using R.ext.size,fun k hk hO=>by
   rw[setRow_other w l.b k _ (fun e=>by subst e;rcases hbase0 with hbase|hbase;exact absurd hbase (by omega);exact hO hbase)];exact R.ext.block k hk hO⟩
  (fun h o' l' hg hl'=>by
   rw[GH.get_del]at hg
   by_cases e:h=hh
   ·rw[if_pos e]at hg;cases hg
   ·rw[if_neg e]at hg
    have hne:l'.b≠l.b:=fun e'=>e (R.inj h hh o' _ l' l hg (GH.cells_eq.1 hcs) hl' hl e')
    exact⟨setRow_other w l.b l'.b _ hne,hne⟩) hbase0 (by
   refine⟨_,T',setRow_heap w l.b _ _ T' _ hb,?_,?_,fun i x hx=> ?_⟩
   ·simp;omega
   ·show l.off+off+(p2++q2).length<=l.size
    rw[List.length_append,e1,e2];omega
   ·have hle0:ρ.le (ρ.upd (H.del hh).n ⟨l.b,l.off+off,l.size,(.cells (cur.toList.take (l.off+off+k*sz)++ns2++cur.toList.drop (l.off+off+k*sz+ns2.length)).toArray T'),.cells (p2++q2)⟩):=Rho.le_upd (R.fresh _ (Nat.le_refl _))
    have hil:=getElem?_lt hx
    rw[List.length_append,e1,e2]at hil
    obtain⟨y,hy,hr⟩:=(c1.rel.append r2).get hx
    refine⟨y,?_,hr.le hle0,?_⟩
    ·show(cur.toList.take (l.off+off+k*sz)++ns2++cur.toList.drop (l.off+off+k*sz+ns2.length)).toArray[l.off+off+i]? = some y
     rw[List.getElem?_toArray,List.append_assoc]
     by_cases hi:i<k*sz
     ·rw[List.getElem?_append_left (by simp;omega),List.getElem?_take,if_pos (by omega),Array.getElem?_toList]
      rw[List.getElem?_append_left (by omega)]at hy
      obtain⟨base',cap2,hV2,_,hh2⟩:=c1.val
      cases hV2
      rcases hh2 with⟨h1,_⟩|⟨A,hA,hAc⟩
      ·cases h1
      ·cases hA
       have:=hAc i y hy
       rw[add_none]at this
       simpa [World.cell?,hb]using this
     ·rw[List.getElem?_append_right (by simp;omega),List.length_take,show min (l.off+off+k*sz) cur.toList.length=l.off+off+k*sz by omega]
      rw[List.getElem?_append_right (by omega),l1]at hy
      rw[List.getElem?_append_left (by omega)]
      rw[<-hy];congr 1;omega
    ·rcases List.mem_append.1 (List.mem_of_getElem? hy)with hm|hm
     ·exact c1.one y hm
     ·exact o2 y hm) (setRow_heap w l.b _ _ T' _ hb)
 exact⟨cur,T',hb,by omega,hnew.1,hnew.2⟩
theorem vAppZ_ok (hG:TabOk P tb) {T T' ty:TypeId} (R:Rel w0 ρ H w) (hv:Rl ρ v V) (hu:Rl ρ u U) (h:vAppZ tb T T' v u H=some (g,H')):Does P w0 ρ (Builtin.append_ #[T,T'] ty #[V,U]) w g H':=by
 unfold vAppZ at h
 obtain⟨hvz,h⟩:=bif_some.1 h
 obtain⟨te,hte,h⟩:=ob_some.1 h
 obtain⟨t',ht',h⟩:=ob_some.1 h
 obtain⟨kn,hkn,h⟩:=ob_some.1 h
 obtain⟨zc,hz,h⟩:=ob_some.1 h
 obtain⟨k,hk,h⟩:=ob_some.1 h
 obtain⟨n,hn,h⟩:=ob_some.1 h
 obtain⟨hlen,h⟩:=bif_some.1 h
 obtain⟨hby,h⟩:=bif_some.1 h
 obtain⟨h0,h⟩:=bif_some'.1 h
 obtain⟨hn0,h⟩:=bif_some'.1 h
 rw[fc_eq,GH.newK_eq]at h;cases h
 obtain⟨⟨d,hd,hde⟩,hE,htab⟩:=elemOf_ok hG hte
 obtain⟨dz,hdz,_,hC⟩:=zeroOf_ok (ρ:=ρ) hG hz
 rw[htab]at hdz;cases hdz
 have hlen:zc.length=te.2.size:=Nat.eq_of_beq_eq_true hlen
 have h0:te.2.size≠0:=fun e=>by rw[e]at h0;cases h0
 have hn0:n≠0:=fun e=>by rw[e]at hn0;cases hn0
 have hby:n*(te.2.bytes+1)<16777216:=by simpa [Nat.blt_eq]using hby
 have hb1:n*te.2.bytes+n<16777216:=by rw[Nat.mul_add,Nat.mul_one]at hby;exact hby
 rw[isSnil_eq hvz]at hv
 have hV:=hv.snil_inv
 subst hV
 rw[asI_eq hk]at hu
 rw[hu.int_inv,asN_eq hn]
 obtain⟨iE,hiE,hs,hb,hze⟩:=hE.info
 have hund:=hd.und
 rw[hde]at hund
 have hund':=(hG.tab ht').und
 rw[tdI_eq hkn]at hund'
 have hr:=Lib.run_append_nil_zeros (P:=P) w T T' ty te.1 iE te.2.zero k.1 kn hund hund' hiE hze n (by omega) (by omega) (by omega) (by rw[hb];omega)
 have hzs:te.2.zero.cells.size=te.2.size:=by have:=hC.r.len;simp at this;omega
 have hge:=grownCap_ge w n 0 te.1
 have hrep:=rep_rel hC (by omega) n
 have hrl:=hrep.r.len
 have hx:Builtin.zeroCells te.2.zero.cells n=(Array.range (n*zc.length)).map (te.2.zero.cells[· % te.2.zero.cells.size]!):=by
  unfold Builtin.zeroCells
  rw[hzs,hlen]
 rw[<-hx]at hrep hrl
 obtain⟨ρ',hle,rfl,R'⟩:=R.alloc' (cs:=rep zc n) (a:=Builtin.zeroCells te.2.zero.cells n++Builtin.zeroCells te.2.zero.cells (grownCap w n 0 te.1 - n)) te.1 (by
   simp only[Array.size_append];have:(rep zc n).length=(Builtin.zeroCells te.2.zero.cells n).size:=by simpa using hrl
   omega) (fun i x hxi=>by
  obtain⟨y,hy,hry⟩:=hrep.r.get hxi
  have hy':(Builtin.zeroCells te.2.zero.cells n)[i]? = some y:=by simpa using hy
  exact⟨y,by rw[Array.getElem?_append_left (by simpa using getElem?_lt hy)];exact hy',hry,hrep.one y (by simpa using List.mem_of_getElem? hy)⟩)
 refine⟨_,_,_,hr,hle,R'.ext' ((Below.refl _ _).drew),?_⟩
 refine .sl (l:=⟨w.heap.size,0,(Builtin.zeroCells te.2.zero.cells n++Builtin.zeroCells te.2.zero.cells (grownCap w n 0 te.1 - n)).size,.cells (Builtin.zeroCells te.2.zero.cells n++Builtin.zeroCells te.2.zero.cells (grownCap w n 0 te.1 - n)) te.1,.cells (rep zc n)⟩) (by simp[Rho.upd]) hge (.inr ⟨rfl,?_⟩)
 simp only[Array.size_append,size_zeroCells,hzs]
 have:grownCap w n 0 te.1*te.2.size=n*te.2.size+(grownCap w n 0 te.1 - n)*te.2.size:=by
  rw[<-Nat.add_mul];congr 1;omega
 omega
theorem Rel.put (R:Rel w0 ρ H w) {hh o:Nat} {cs uc c1:List GV} {l:Loc} {us:List Value} (hcs:H.cells hh=some cs) (hl:ρ hh=some l) (hus:RlL ρ uc us) (hone:∀x∈us,one x=true) (hput:gput uc o cs=some c1) (hne:uc≠[]):
  ∃cur T',w.heap[l.b]? = some (.cells cur T' (0,0))∧l.off+o+us.length<=cur.size∧∃ρ',ρ.le ρ'∧Rel w0 ρ' (H.set hh (.cells c1)) (w.setRow l.b (cur.toList.take (l.off+o)++us++cur.toList.drop (l.off+o+us.length)).toArray):=by
 obtain⟨cur,T',hb,hsz,hfit,hcell⟩:=R.cells hcs hl
 have hul:uc.length=us.length:=hus.len
 obtain⟨p1,p2,p3⟩:=gput_eq hput
 have p1:=p1 hne
 refine⟨cur,T',hb,by omega,_,R.set (GH.cells_eq.1 hcs) hl ?_ (fun k hk=>setRow_other w l.b k _ hk) ?_ (setRow_heap w l.b _ _ T' _ hb)⟩
 ·obtain⟨l',hl',hbase,_⟩:=R.live _ _ (GH.cells_eq.1 hcs)
  rw[hl]at hl';cases hl'
  exact⟨R.ext.os,R.ext.tape,R.ext.output,by simpa using R.ext.size,fun k hk hO=>by
   rw[setRow_other w l.b k _ (fun e=>by subst e;rcases hbase with hbase|hbase;exact absurd hbase (by omega);exact hO hbase)];exact R.ext.block k hk hO⟩
 ·refine⟨_,T',setRow_heap w l.b _ _ T' _ hb,?_,by omega,fun i x hx=> ?_⟩
  ·simp;omega
  ·rw[p3 i]at hx
   have hcl:cur.toList.length=cur.size:=by simp
   have key:(cur.toList.take (l.off+o)++us++cur.toList.drop (l.off+o+us.length)).toArray[l.off+i]? = if o<=i∧i<o+us.length then us[i - o]? else cur[l.off+i]?:=by
    rw[List.getElem?_toArray,List.append_assoc]
    by_cases hi:i<o
    ·rw[if_neg (by omega),List.getElem?_append_left (by simp;omega),List.getElem?_take,if_pos (by omega),Array.getElem?_toList]
    ·rw[List.getElem?_append_right (by simp;omega),List.length_take]
     have e1:min (l.off+o) cur.toList.length=l.off+o:=by omega
     rw[e1]
     by_cases hi2:i<o+us.length
     ·rw[if_pos (by omega),List.getElem?_append_left (by omega)]
      congr 1;omega
     ·rw[if_neg (by omega),List.getElem?_append_right (by omega),List.getElem?_drop,Array.getElem?_toList]
      congr 1;omega
   by_cases hi:o<=i∧i<o+uc.length
   ·rw[if_pos hi]at hx
    obtain⟨y,hy,hr⟩:=hus.get hx
    exact⟨y,by rw[key,if_pos (by omega)];exact hy,hr,hone y (List.mem_of_getElem? hy)⟩
   ·rw[if_neg hi]at hx
    obtain⟨y,hy,hr⟩:=hcell i x hx
    exact⟨y,by rw[key,if_neg (by omega)];exact hy,hr⟩
theorem vCopy_ok (hG:TabOk P tb) {T T' ty:TypeId} (R:Rel w0 ρ H w) (hv:Rl ρ v V) (hu:Rl ρ u U) (h:vCopy tb T v u H=some (g,H')):Does P w0 ρ (Builtin.copy_ #[T,T'] ty #[V,U]) w g H':=by
 obtain⟨s,hs,h⟩:=ob_some.1 (show ob v.asS _=some (g,H')from h)
 obtain⟨r,hr,h⟩:=ob_some.1 h
 obtain⟨te,hte,h⟩:=ob_some.1 h
 obtain⟨hs1,h⟩:=bif_some.1 h
 obtain⟨hr1,h⟩:=bif_some.1 h
 obtain⟨hlen,h⟩:=bif_some.1 h
 obtain⟨cs,hcs,h⟩:=ob_some.1 h
 obtain⟨xs,hxs,h⟩:=ob_some.1 h
 obtain⟨ds,hds,h⟩:=ob_some.1 h
 have hs1:s.2.2.2=te.2.size:=Nat.eq_of_beq_eq_true hs1
 have hr1:r.2.2.2=te.2.size:=Nat.eq_of_beq_eq_true hr1
 have hlen:r.2.2.1=s.2.2.1:=Nat.eq_of_beq_eq_true hlen
 cases xs with
 |nil=>cases h
 | cons x0 xs0 =>
  obtain⟨c1,hput,h⟩:=ob_some.1 (show ob (gput (x0::xs0) s.2.1 ds) _=some (g,H')from h)
  rw[GH.setK_eq]at h
  cases h
  have hcont:content H te.2.size u=some (r.2.2.1,x0::xs0):=by
   unfold content
   rw[asS_eq hr]
   have hb:Nat.beq te.2.size te.2.size=true:=by simp
   show ob (some r) (fun s=>bif Nat.beq s.2.2.2 te.2.size then _ else none)=_
   show(bif Nat.beq r.2.2.2 te.2.size then ob (H.cells r.1) (fun cs=>ob (slc cs r.2.1 (Nat.mul r.2.2.1 te.2.size)) fun q=>some (r.2.2.1,q))else none)=_
   rw[hr1,hb,cond_true,hcs]
   show ob (slc cs r.2.1 (Nat.mul r.2.2.1 te.2.size)) _=_
   rw[hxs];rfl
  obtain⟨ns,c2⟩:=content_ok R hu hcont
  obtain⟨⟨d,hd,hde⟩,hE,htab⟩:=elemOf_ok hG hte
  rw[asS_eq hs]at hv
  obtain⟨l,cap,A,hl,rfl,hc,ha⟩:=hv.sl_inv
  have hne:x0::xs0≠[]:=by simp
  obtain⟨cur,T2,hb,hfit,ρ',hle,R'⟩:=R.put hds hl c2.rel c2.one hput hne
  have hnsl:=c2.len
  have hns0:ns.length≠0:=by have:=c2.rel.len;simp at this;omega
  have hA:A=⟨l.b,l.off+s.2.1,none⟩:=by
   rcases ha with ha|⟨e,_⟩
   ·exfalso
    have:s.2.2.1=0:=by omega
    rw[hlen,this]at hnsl;simp at hnsl;exact hns0 (by simp[hnsl])
   ·exact e
  subst hA
  have hund:=hd.und
  rw[hde]at hund
  have hst:=run_storeCells_at P l.b (l.off+s.2.1) T2 ns 0 cur w hb (by simpa using hfit) (fun x hx=>one_oneCell (c2.one x hx))
  simp only[Nat.add_zero]at hst
  obtain⟨base,cap2,hV2,hcap2,hh2⟩:=c2.val
  subst hV2
  rcases hh2 with⟨_,h0,_⟩|⟨A2,rfl,hcell⟩
  ·exfalso;rw[h0]at hnsl;simp at hnsl;exact hns0 (by simp[hnsl])
  have hld:=run_firstCells_some (P:=P) w te.2.size r.2.2.1 A2 r.2.2.1 cap2 ns hnsl hcell
  have hru:=hd.run_und w
  rw[hde]at hru
  refine⟨_,_,ρ',?_,hle,R',.int _ _⟩
  have hmin:Nat.min r.2.2.1 s.2.2.1=r.2.2.1:=by rw[hlen];exact Nat.min_self _
  simp[Builtin.copy_,hru,Builtin.lenOf,hE.run_size w,hmin,hld,hst,goInt]
theorem vApp_ok (hG:TabOk P tb) {T T' ty:TypeId} (R:Rel w0 ρ H w) (hv:Rl ρ v V) (hu:Rl ρ u U) (h:vApp tb T T' v u H=some (g,H')):Does P w0 ρ (Builtin.append_ #[T,T'] ty #[V,U]) w g H':=by
 unfold vApp at h
 cases hTT:Nat.beq T T' with
 |false=>rw[hTT]at h;exact vAppZ_ok hG R hv hu h
 |true=>
 rw[hTT]at h
 have hTT:T=T':=Nat.eq_of_beq_eq_true hTT
 subst hTT
 rw[cond_true]at h
 obtain⟨te,hte,h⟩:=ob_some.1 h
 obtain⟨h0,h⟩:=bif_some'.1 h
 obtain⟨zc,hz,h⟩:=ob_some.1 h
 obtain⟨hzl,h⟩:=bif_some.1 h
 obtain⟨p,hp,h⟩:=ob_some.1 h
 obtain⟨q,hq,h⟩:=ob_some.1 h
 obtain⟨⟨d,hd,hde⟩,hE,htab⟩:=elemOf_ok hG hte
 obtain⟨dz,hdz,_,hC⟩:=zeroOf_ok (ρ:=ρ) hG hz
 rw[htab]at hdz;cases hdz
 have hzl:zc.length=te.2.size:=Nat.eq_of_beq_eq_true hzl
 have hzs:te.2.zero.cells.size=te.2.size:=by have:=hC.r.len;simp at this;omega
 have h0:te.2.size≠0:=fun e=>by rw[e]at h0;cases h0
 obtain⟨ns1,c1⟩:=content_ok R hv hp
 obtain⟨ns2,c2⟩:=content_ok R hu hq
 have hund:=hd.und
 rw[hde]at hund
 have src:=c2.src (P:=P) (T:=T) hund
 obtain⟨base,cap,hV,hcap,hbase⟩:=c1.val
 cases hq1:q.1 with
 |zero=>
  rw[hq1]at h
  cases h
  rw[hq1]at src
  have hns:ns2=[]:=List.eq_nil_of_length_eq_zero (by have:=c2.len;rw[hq1]at this;simpa using this)
  subst hns
  refine⟨V,w,ρ,?_,Rho.le_refl _,R,hv⟩
  have hru:=hd.run_und w
  rw[hde]at hru
  have hlen:=src.len w
  have hcl:=src.cells
  subst hV
  cases base with
  |none=>simp[Builtin.append_,hru,hE.run_size w,hlen,hcl,hcap]
  |some A=>simp[Builtin.append_,hru,hE.run_size w,hlen,hcl,hcap,storeCells]
 | succ m =>
  rw[hq1]at h
  simp only[sn_eq]at h
  obtain⟨hbig,h⟩:=bif_some.1 h
  rw[lap_eq,delSK_eq,GH.newK_eq]at h
  cases h
  have hbig:(p.1+q.1)*(te.2.bytes+1)<16777216:=by rw[hq1];simpa [Nat.blt_eq]using hbig
  have hb1:(p.1+q.1)*te.2.bytes+(p.1+q.1)<16777216:=by rw[Nat.mul_add,Nat.mul_one]at hbig;exact hbig
  have hq1':Nat.add p.1 (m+1)=p.1+q.1:=by rw[hq1];rfl
  have hrell:RlL ρ (p.2++q.2) (ns1++ns2):=c1.rel.append c2.rel
  have hlen12:(p.2++q.2).length=(p.1+q.1)*te.2.size:=by
   rw[hrell.len,List.length_append,c1.len,c2.len,<-Nat.add_mul]
  have hone12:∀x∈ns1++ns2,one x=true:=fun x hx=>by
   rcases List.mem_append.1 hx with hx|hx
   ·exact c1.one x hx
   ·exact c2.one x hx
  by_cases hroom:p.1+q.1<=cap
  ·
   have hvs:∃s,v.asS=some s:=by
    cases hzz:v.isSnil with
    |true=>
     rw[isSnil_eq hzz]at hv
     have:=hv.snil_inv
     rw[hV]at this
     injection this with _ _ e3
     omega
    |false=>
     unfold content at hp
     rw[hzz]at hp
     obtain⟨s,hs,_⟩:=ob_some.1 (show ob v.asS _=some p from hp)
     exact⟨s,hs⟩
   obtain⟨s,hs⟩:=hvs
   obtain⟨hsz,cs,hcs,hbb,hp1⟩:=content_sl hp hs
   rw[asS_eq hs]at hv
   obtain⟨l,cap',A,hl,hV',hc,ha⟩:=hv.sl_inv
   rw[hV]at hV'
   injection hV' with e1 e2 e3
   subst e1 e3
   rcases ha with ha|⟨rfl,hbound⟩
   ·omega
   rw[hsz]at hbound
   have c1':=c1
   rw[hV]at c1'
   obtain⟨cur,T',hh,hcs2,hle,R'⟩:=app_place R hcs hl c1' c2.rel c2.len c2.one hroom hbound
   have hr:=run_room (P:=P) (ty:=ty) hd hde hE hh src hroom hcs2
   have hdel:delS H v=H.del s.1:=by unfold delS;rw[hs]
   rw[hdel,hV]
   refine⟨_,_,_,hr,hle,R',?_⟩
   rw[hq1']
   exact .sl (l:=⟨l.b,l.off+s.2.1,l.size,_,_⟩) (by show(if H.n=H.n then _ else _)=_;exact if_pos rfl) hroom (.inr ⟨rfl,by show l.off+s.2.1+0+cap*te.2.size<=l.size;omega⟩)
  ·
   have hR':Rel w0 ρ (delS H v) w.drew:=by
    have:Rel w0 ρ (delS H v) w:=by
     unfold delS
     cases v.asS with
     |none=>exact R
     |some s=>exact R.del s.1
    exact this.ext' ((Below.refl _ _).drew)
   have hr:=run_grow (P:=P) (ty:=ty) hd hde hE (base:=base) (by rw[<-hV];exact c1.old) src (by omega) (by omega) (by omega)
   have hge:=grownCap_ge w (p.1+q.1) cap te.1
   have hn1:(ns1++ns2).length=(p.1+q.1)*te.2.size:=by rw[<-hrell.len];exact hlen12
   obtain⟨ρ',hle,rfl,R'⟩:=hR'.alloc' (cs:=p.2++q.2) (a:=(ns1++ns2).toArray++Builtin.zeroCells te.2.zero.cells (grownCap w (p.1+q.1) cap te.1 - (p.1+q.1))) te.1 (by simp only[Array.size_append,List.size_toArray];omega) (fun i x hx=>by
    obtain⟨y,hy,hr⟩:=hrell.get hx
    exact⟨y,by rw[Array.getElem?_append_left (by simpa using getElem?_lt hy)];simpa using hy,hr,hone12 y (List.mem_of_getElem? hy)⟩)
   rw[hV]
   refine⟨_,_,_,hr,hle,R',?_⟩
   rw[hq1']
   refine .sl (l:=⟨w.heap.size,0,((ns1++ns2).toArray++Builtin.zeroCells te.2.zero.cells (grownCap w (p.1+q.1) cap te.1 - (p.1+q.1))).size,.cells ((ns1++ns2).toArray++Builtin.zeroCells te.2.zero.cells (grownCap w (p.1+q.1) cap te.1 - (p.1+q.1))) te.1,.cells (p.2++q.2)⟩) (by simp[Rho.upd]) hge (.inr ⟨rfl,?_⟩)
   simp only[Array.size_append,List.size_toArray,size_zeroCells,hzs,hn1]
   have:grownCap w (p.1+q.1) cap te.1*te.2.size=(p.1+q.1)*te.2.size+(grownCap w (p.1+q.1) cap te.1 - (p.1+q.1))*te.2.size:=by
    rw[<-Nat.add_mul];congr 1;omega
   omega
end
end Go.Gx
end
