/- Models and proofs. Conditions: none. -/
import Derived.WalkKit
import Derived.RangeFuncRecord
import Derived.OrdersIn
import Derived.TacticsIn
import Derived.DefersIn
import Derived.Test.YtemmagadjnlajaaGreatDoorProg
import Derived.Deep.AppendSrc
import Derived.Test.YtemmagadjnlajaaGreatDoorRows
import Derived.ProofKit
import Derived.Deep.Slices
import Derived.Lib.SmallJoins
abbrev V1:=Option
abbrev V6:=List
abbrev V2:=Go.World
abbrev V9:=Go.TypeId
abbrev V3:=Go.Operand
abbrev V5:=Go.Oper
abbrev V4:=Bool
theorem Q0.{u} {c:Prop} [Decidable c] {α:Sort u} {a b:α} (h:¬c:=by omega):ite c a b=b:=if_neg h
theorem Q8.{u} {c:Prop} [Decidable c] {α:Sort u} {a b:α} (h:c:=by omega):ite c a b=a:=if_pos h
theorem V7 {p:Prop} (h:p:=by omega):p:=h
theorem Q2 {p:Prop} (h:p:=by decide):p:=h
theorem V8 {p:Prop} (h:p:=by simp):p:=h
theorem Q1 {p:Prop} (h:p:=by simp;omega):p:=h
open Go.Proofs.Tryz
abbrev V0:=Go.Value
theorem Z.{u} {α:Sort u} {a:α}:a=a:=rfl
abbrev zA0:=@List.length_append
abbrev zA1:=@List.getElem?_eq_getElem
abbrev zA2:=@List.all_eq_true
abbrev zA3:=@List.length_cons
abbrev zA4:=@Nat.eq_of_beq_eq_true
abbrev zA5:=@Bool.and_eq_true
abbrev zA6:=@decide_eq_false
abbrev zA7:=@Int.toNat_natCast
abbrev zA8:=@Array.getElem?_eq_some_iff
abbrev zA9:=@List.getElem?_append_right
abbrev zAa:=@decide_eq_true_eq
abbrev zAb:=@List.length_set
abbrev zAc:=@decide_eq_true
abbrev zAd:=@List.mem_cons_self
abbrev zAe:=@List.getElem?_append_left
abbrev zAf:=@Nat.le_refl
abbrev zAg:=@List.mem_range
abbrev zAh:=@List.getElem?_set_self
abbrev zAi:=@List.mem_cons
abbrev zAj:=@Array.getElem?_toList
abbrev zAk:=@List.mem_cons_of_mem
abbrev zAl:=@List.eq_nil_of_length_eq_zero
abbrev zAm:=@List.getD_eq_getElem?_getD
abbrev zAn:=@List.getElem?_take
abbrev zAo:=@List.mem_of_getElem?
abbrev zAp:=@Nat.blt_eq
abbrev zAq:=@List.getElem?_drop
abbrev zAr:=@List.append_assoc
abbrev zAs:=@List.getElem?_eq_none
abbrev zAt:=@Nat.add_mul
abbrev zAu:=@List.getElem?_set_ne
abbrev zAv:=@Array.getElem?_setIfInBounds_ne
abbrev zAw:=@Nat.lt_of_lt_of_le
abbrev zAx:=@List.mem_append
abbrev zAy:=@Nat.lt_or_ge
abbrev zAz:=@Nat.le_trans
abbrev zB0:=@List.take_append_drop
abbrev zB1:=@Array.getElem?_setIfInBounds_self_of_lt
abbrev zB2:=@List.length_take
abbrev zB3:=@Nat.zero_add
abbrev zB4:=@Bool.not_eq_true'
abbrev zB5:=@List.mem_map
abbrev zB6:=@Array.getElem?_append_left
abbrev zB7:=@Decidable.not_not
noncomputable section
set_option linter.unusedVariables false
set_option linter.unusedSimpArgs false
set_option maxHeartbeats 4000000
set_option maxRecDepth 20000
namespace Go.Sx
open Go.RowKit
def FR (r:V1 Nat):Fence:={Fence.wide with round:=r}
theorem Qj (P:Program) (r:V1 Nat):Machine.fenced P (FR r)=Machine.fenced P Fence.wide:=rfl
theorem Wy (r:V1 Nat) (n:Nat):(FR r).room n:=λ_ h=>by cases h
theorem Xe {r:V1 Nat} {n:Nat} {P:Program} {f:FuncId} {a:Array V0} {w:V2} {R:Ending->V2->Prop} (h:Calls P f a w R):CallsIn (FR r) n P f a w R:=
 ⟨trivial,λb _=>let ⟨e,w',fr,hr,s,x⟩:=h b;⟨e,w',fr,hr,(Qj P r▸comesIn_wide.2 s),x⟩⟩
theorem TE {r:V1 Nat} {n:Nat} {P:Program} {f:FuncId} {args:Array V0} {w:V2} {R:Ending->V2->Prop} (h:CallsIn (FR r) n P f args w R):Calls P f args w R:=
 λa=>let ⟨e,w',fr,hr,s,x⟩:=h.2 a (Wy r _);⟨e,w',fr,hr,ComesIn.comes s,x⟩
def _root_.Go.Code.wpr (r:V1 Nat) (P:Program) (c:Code) (Q:Exit->Act->V2->Prop) (a:Act) (w:V2):Prop:=c.wpIn (FR r) 0 P Q a w
section
variable {r:V1 Nat} {P:Program} {Q:Exit->Act->V2->Prop} {a:Act} {w:V2}
theorem LE {c:Code} {b:Exit->Act->V2->Prop} (d:∀e a w,Q e a w->b e a w) (h:c.wpr r P Q a w):c.wpr r P b a w:=Code.wpIn_mono d h
theorem Yf {x y:Code} (h:x.wpr r P (Exit.then (y.wpr r P Q) Q) a w):(Code.seq x y).wpr r P Q a w:=wpIn_seq h
theorem QR {id:Nat} {x:Code} (h:x.wpr r P (Exit.inBlock id Q) a w):(Code.block id x).wpr r P Q a w:=wpIn_block h
theorem UL (h:Q .normal a w):Code.skip.wpr r P Q a w:=wpIn_skip h
theorem UK {id:Nat} (h:Q (.exit id) a w):(Code.exit id).wpr r P Q a w:=wpIn_exit h
theorem Ye (h:Q .ret a w):Code.ret.wpr r P Q a w:=wpIn_ret h
theorem Jo {x:V3} {d c:Code} {b:V4} (e:a.eval x = .bool b) (g:b=true->d.wpr r P Q a w) (f:b=false->c.wpr r P Q a w):(Code.cond x d c).wpr r P Q a w:=wpIn_cond_split e g f
def _root_.Go.Oper.rnd (P:Program) (o:V5) (a:Act) (w:V2) (K:Act->V2->Prop):Prop:=
 ∃l f d b c h,(execOp a.eval o).run P w = .ok (.round l f d b c) h/\RoundIn (FR none) 0 P l f d b c h λe g=>∃v,e = .returned v/\K (a.put o.dst v) g
theorem _root_.Go.Oper.rnd_mono {o:V5} {K g:Act->V2->Prop} (m:∀a w,K a w->g a w) (h:o.rnd P a w K):o.rnd P a w g:=by
 have⟨l,f,d,b,c,p,i,j⟩:=h;exact⟨l,f,d,b,c,p,i,j.mono λe q ⟨v,k,n⟩=>⟨v,k,m _ _ n⟩⟩
def lW (o:V5):V4:=match o.op with|.defer _=>false|_=>true
theorem abH {o:V5} (h:lW o=true) (r:V1 Nat) (b:V3->V0):o.semAt r b=execOp b o:=
 Oper.semAt_eq r b o λc d=>by unfold lW at h;rw[d]at h;cases h
theorem ahX {n:Nat} {d:String} {b:Array V0} {R:V0->V2->Prop} (h:Rows P d b w R):RowsIn (FR r) n P d b w R:=λc e _=>
 let ⟨v,w',hr,s⟩:=h c e;⟨v,w',hr,(Qj P r▸stepsIn_wide.2 s)⟩
theorem afK {o:V5} {K:Act->V2->Prop} (z:lW o=true) (h:o.wp P a w K Q\/o.rnd P a w K):o.wpIn (FR r) 0 P a w K Q:=by
 refine⟨λ_ _=>trivial,?_⟩
 rw[abH z];rcases h with h|h
 .unfold Oper.wp at h;cases n:(execOp a.eval o).run P w with
  | ok x q =>
   rw[n]at h;cases x with
   |value v=>exact h
   |skip=>exact h
   |defer d=>exact h
   |enter f b=>
    refine⟨(λg=>by cases g),(Xe h).mono ?_⟩
    intro e i k;cases e<;>exact k
   |row rw b=>exact⟨(λg=>by cases g),ahX h⟩
   |_=>exact h.elim
  |halt x q=>
   rw[n]at h;cases x<;>first|exact h|exact h.elim
 .have⟨l,f,p,j,m,q,u,y⟩:=h;rw[u];refine⟨(λg=>by cases g),?_⟩
  exact⟨trivial,λc t _=>by
   have⟨e,i,⟨v,k,A⟩,s⟩:=y.2 c t (Wy none _);subst k;exact⟨.returned v,i,A,s⟩⟩
end
def wpList (P:Program) (ops:Array V5) (Q:Exit->Act->V2->Prop):V6 V5->Act->V2->Prop
 | [],a,w=>Q .normal a w
 |o::rest,a,w=>
  if Region.wanted o (yielded ops a.tmps)then o.wp P a w (wpList P ops Q rest) Q\/o.rnd P a w (wpList P ops Q rest)else wpList P ops Q rest (a.put o.dst undef) w
theorem wpList_in {r:V1 Nat} {P:Program} {ops:Array V5} {Q:Exit->Act->V2->Prop}:∀(l:V6 V5) (a:Act) (w:V2),l.all lW=true->wpList P ops Q l a w->wpListIn (FR r) 0 P ops Q l a w
 | [],_,_,_,h=>h
 | o :: rest, a, w, hd, h =>by
  simp only[List.all_cons,zA5]at hd;unfold wpList at h;unfold wpListIn;by_cases b:Region.wanted o (yielded ops a.tmps)=true
  .rw[if_pos b]at h ⊢;refine afK hd.1 ?_;rcases h with h|h
   .exact .inl (Oper.wp_mono (λa w h=>wpList_in rest a w hd.2 h) h)
   .exact .inr (Oper.rnd_mono (λa w h=>wpList_in rest a w hd.2 h) h)
  .rw[if_neg b]at h ⊢;exact⟨λ_ _=>trivial,wpList_in rest _ w hd.2 h⟩
theorem yX {r:V1 Nat} {P:Program} {Q:Exit->Act->V2->Prop} {a:Act} {w:V2} {id:Nat} {l:V6 V5} (b:l.all lW=true) (h:wpList P l.toArray Q l a w):(Code.region id l.toArray false).wpr r P Q a w:=
 wpIn_region_lit (wpList_in l a w b h)
def wpOp (P:Program) (b:Array V5) (Q:Exit->Act->V2->Prop) (i:Nat) (K:Act->V2->Prop) (a:Act) (w:V2):Prop:=
 match b[i]? with
 |none=>K a w
 |some o=>if Region.wanted o (yielded b a.tmps)then o.wp P a w K Q\/o.rnd P a w K else K (a.put o.dst undef) w
def Px (P:Program) (b:Array V5) (Q:Exit->Act->V2->Prop):V6 Nat->Act->V2->Prop
 | [],a,w=>Q .normal a w
 |i::rest,a,w=>wpOp P b Q i (Px P b Q rest) a w
theorem Ww {P:Program} {c:Array V5} {Q:Exit->Act->V2->Prop} (i:Nat) (b:V6 Nat) (a:Act) (w:V2):Px P c Q (i::b) a w=wpOp P c Q i (Px P c Q b) a w:=rfl
def wpAny (P:Program) (c:Region.Mode) (b:Array V5) (Q:Exit->Act->V2->Prop):Nat->Array V4->Act->V2->Prop
 |0,listed,a,w=>Region.ready c b listed=[]/\Q .normal a w
 |fuel+1,listed,a,w=>
  (Region.ready c b listed=[]->Q .normal a w)/\
  ∀i∈Region.ready c b listed,wpOp P b Q i (wpAny P c b Q fuel (listed.setIfInBounds i true)) a w
section
variable {r:V1 Nat} {P:Program} {ops:Array V5} {Q:Exit->Act->V2->Prop}
theorem Yd {i:Nat} {K d:Act->V2->Prop} {a:Act} {w:V2} (f:∀o,ops[i]?=some o->lW o=true) (b:∀a w,K a w->d a w) (h:wpOp P ops Q i K a w):wpOpIn (FR r) 0 P ops Q i d a w:=by
 unfold wpOp at h;unfold wpOpIn;cases c:ops[i]? with
 |none=>rw[c]at h;exact b _ _ h
 | some o =>
  rw[c]at h;dsimp only at h ⊢;by_cases e:Region.wanted o (yielded ops a.tmps)=true
  .rw[if_pos e]at h ⊢;refine afK (f o c) ?_;rcases h with h|h
   .exact .inl (Oper.wp_mono b h)
   .exact .inr (Oper.rnd_mono b h)
  .rw[if_neg e]at h ⊢;exact⟨λ_ _=>trivial,b _ _ h⟩
theorem UI (b:∀(i:Nat) (o:V5),ops[i]?=some o->lW o=true):∀(s:V6 Nat) (a:Act) (w:V2),Px P ops Q s a w->wpOpsIn (FR r) 0 P ops Q s a w
 | [],_,_,h=>h
 |i::rest,a,w,h=>by
  rw[wpOpsIn_cons];exact Yd (b i) (λa w h=>UI b rest a w h) h
theorem UH {d:Region.Mode} (c:∀(i:Nat) (o:V5),ops[i]?=some o->lW o=true):∀(fuel:Nat) (b:Array V4) (a:Act) (w:V2),wpAny P d ops Q fuel b a w->wpAnyIn (FR r) 0 P d ops Q fuel b a w
 |0,_,_,_,h=>h
 |fuel+1,b,a,w,h=>⟨h.1,λi e=>Yd (c i) (λa w h=>UH c fuel _ a w h) (h.2 i e)⟩
theorem MY {l:V6 V5} (h:l.all lW=true) (i:Nat) (o:V5) (a:l.toArray[i]?=some o):lW o=true:=by
 have b:o∈l:=by
  rw[List.getElem?_toArray]at a;exact zAo a
 exact zA2.1 h o b
theorem Jp {id:Nat} {l:V6 V5} {a:Act} {w:V2} (b:l.all lW=true) (c:P.follows .mixedOrders=true)
  (h:wpAny P .any l.toArray Q l.toArray.size (Array.replicate l.toArray.size false) a {w with drawn:=w.drawn+1}):(Code.region id l.toArray true).wpr r P Q a w:=
 wpIn_region_any c (UH (MY b) _ _ _ _ h)
theorem Nn {id:Nat} {l:V6 V5} {a:Act} {w:V2} (b:l.all lW=true)
  (h:∀t,Px P l.toArray Q (Region.schedule (P.follows .mixedOrders) l.toArray t) a {w with drawn:=w.drawn+1}):(Code.region id l.toArray true).wpr r P Q a w:=
 wpIn_region_draw λt=>UI (MY b) _ _ _ (h t)
end
def kE (P:Program) (a:Func) (R:Ending->V2->Prop):Exit->Act->V2->Prop:=bodyPostM (FR none) 0 P a R
theorem zA {P:Program} {f:FuncId} {fn:Func} {c:Code} {a:Array V0} {w:V2} {R:Ending->V2->Prop} (d:P.funcs[f]?=some fn) (b:fn.body=some c)
  (h:c.wpr none P (kE P fn R) {tmps:=a++Array.replicate (fn.ntmps - a.size) undef,defers:=[]} w):Calls P f a w R:=
 TE (r:=none) (callsIn_of_wp_marks d b trivial h)
theorem body_end {P:Program} {fn:Func} {R:Ending->V2->Prop} {a:Act} {w:V2} {v:V0} {e:Exit} (f:e = .ret\/e = .normal) (c:a.defers=[]) (d:(results fn a.tmps).run P w = .ok v w) (b:R (.returned v) w):kE P fn R e a w:=by
 rcases f with rfl|rfl
 .show LeavesInM (FR none) 0 P fn a.tmps R a.defers .returning w;rw[c];exact⟨v,d,b⟩
 .show LeavesInM (FR none) 0 P fn a.tmps R a.defers .returning w;rw[c];exact⟨v,d,b⟩
theorem Yr {P:Program} {b:Func} {R:Ending->V2->Prop} {a:Act} {w:V2} {e:Exit} {D:Nat} {d:V6 Deferred} (j:e = .ret\/e = .normal) (i:a.defers={target:= .collected D,args:= #[]}::d) (f:w.heap[D]?=some (.deferred (some [])))
  (h:LeavesInM (FR none) 0 P b a.tmps R d .returning (w.putObj D (.deferred none))):kE P b R e a w:=by
 have c:LeavesInM (FR none) 0 P b a.tmps R a.defers .returning w:=by
  rw[i];exact⟨(λg=>by cases g),.inl ⟨D,_,rfl,run_takeDeferred f,h⟩⟩
 rcases j with rfl|rfl<;>exact c
abbrev Fr:=V6 (Nat×V0)
def lk:Fr->Nat->V1 V0
 | [],_=>none
 |(k,v)::r,t=>bif Nat.beq t k then some v else lk r t
def ev (σ:Fr):V3->V1 V0
 | .tmp t=>lk σ t
 | .const v=>some v
 | .global g=>some (.pointer (some ⟨g,0,none⟩))
 | .func f=>some (.func (.func f) #[] #[])
structure Sz where
 sz:Nat
 ds:List Deferred
structure Kl (n:Sz) (σ:Fr) (a:Act):Prop where
 defers:a.defers=n.ds
 size:a.tmps.size=n.sz
 slot:∀t v,lk σ t=some v->a.tmps[t]?=some v
theorem Kl.eval {n:Sz} {c:Fr} {a:Act} (h:Kl n c a) {x:V3} {v:V0} (b:ev c x=some v):a.eval x=v:=by
 cases x with
 |tmp t=>simp only[ev]at b;have:=h.slot t v b;simp[Act.eval,this]
 |const u=>simpa [ev,Act.eval]using b
 |global g=>simpa [ev,Act.eval]using b
 |func f=>simpa [ev,Act.eval]using b
theorem qT {t d:Nat} (e:t≠d):Nat.beq t d=false:=by
 cases h:Nat.beq t d with
 |false=>rfl
 |true=>exact absurd (zA4 h) e
theorem Kl.put {n:Sz} {f:Fr} {a:Act} (h:Kl n f a) (d:Nat) (v:V0) (g:Nat.blt d n.sz=true):Kl n ((d,v)::f) (a.put (some d) v):=by
 have c:d<n.sz:=by simpa [zAp]using g
 refine⟨h.defers,by simp[Act.put,h.size],λt u b=>?_⟩
 simp only[lk]at b;by_cases e:t=d
 .subst e;simp at b;subst b;simp[Act.put,h.size,c]
 .rw[qT e]at b;simp only[cond_false]at b;simp only[Act.put];rw[zAv (Ne.symm e)];exact h.slot t u b
def Ej (b a:Fr):Prop:=∀t v,lk a t=some v->lk b t=some v
theorem Ej.nil {a:Fr}:Ej a []:=λ_ _ h=>by simp[lk]at h
theorem Ej.refl (a:Fr):Ej a a:=λ_ _ h=>h
theorem Ej.cons {c b:Fr} {t:Nat} {v:V0} (h:lk c t=some v) (r:Ej c b):Ej c ((t,v)::b):=by
 intro u x a;simp only[lk]at a;by_cases e:u=t
 .subst e;simp at a;subst a;exact h
 .rw[qT e]at a;exact r u x a
theorem Kl.weak {n:Sz} {c b:Fr} {a:Act} (h:Kl n c a) (d:Ej c b):Kl n b a:=
 ⟨h.defers,h.size,λt v e=>h.slot t v (d t v e)⟩
theorem SF {b a:Fr} (h:Ej b a:=by repeat (first|exact Ej.nil|refine Ej.cons Z ?_)):Ej b a:=h
structure bF where
 p:World->(Nat->Prop)->Prop
 mono:∀{w w':World} {S S':Nat->Prop},p w S->(∀k,S k->k<w.heap.size->S' k/\w'.heap[k]?=w.heap[k]?)->p w' S'
structure zW where
 w0:World
 S0:Nat->Prop
 O:Nat->Prop:=λ_=>False
def zW.mine (c:zW) (k:Nat):Prop:=c.w0.heap.size<=k\/c.O k
def zW.all (c:zW) (k:Nat):Prop:=c.S0 k\/c.mine k
abbrev UN (w w':V2):Prop:=Below w.heap.size w w'
structure HE (O:Nat->Prop) (w w':World):Prop where
 os:w'.os=w.os
 tape:w'.tape=w.tape
 output:w'.output=w.output
 size:w.heap.size<=w'.heap.size
 block:∀k,k<w.heap.size->¬O k->w'.heap[k]?=w.heap[k]?
theorem HE.refl {O:Nat->Prop} (w:V2):HE O w w:=⟨rfl,rfl,rfl,zAf _,λ_ _ _=>rfl⟩
theorem HE.trans {O:Nat->Prop} {a b c:V2} (h:HE O a b) (k:UN b c):HE O a c:=
 ⟨k.os.trans h.os,k.tape.trans h.tape,k.output.trans h.output,zAz h.size k.size,λi d e=>(k.block i (zAw d h.size)).trans (h.block i d e)⟩
theorem HE.ext {w w':V2} (h:HE (λ_=>False) w w'):UN w w':=⟨h.os,h.tape,h.output,h.size,λk a=>h.block k a id⟩
structure Own (c:zW) (w:World) (M:List bF) (F:Nat->Nat->Prop):Prop where
 res:∀(i:Nat) (m:bF),M[i]?=some m->m.p w (F i)
 rng:∀i k,F i k->c.mine k/\k<w.heap.size
 dis:∀i j k,F i k->F j k->i=j
def HB (c:zW) (F:Nat->Nat->Prop) (k:Nat):Prop:=c.all k/\∀i,¬F i k
structure St (c:zW) (M L:List bF) (w:World):Prop where
 old:HE c.O c.w0 w
 own:∃F:Nat->Nat->Prop,Own c w M F/\∀f∈L,f.p w (HB c F)
theorem bF.same {f:bF} {w c:V2} {S a:Nat->Prop} (h:f.p w S) (d:∀k,S k->a k) (e:∀k,S k->k<w.heap.size->c.heap[k]?=w.heap[k]?):f.p c a:=
 f.mono h λk b g=>⟨d k b,e k b g⟩
theorem St.ext {c:zW} {M L:V6 bF} {w w':V2} (h:St c M L w) (e:UN w w'):St c M L w':=by
 have⟨n,F,a,g⟩:=h;refine⟨n.trans e,F,⟨λi m l=>bF.same (a.res i m l) (λ_ h=>h) (λk _ b=>e.block k b),λi k d=>⟨(a.rng i k d).1,zAw (a.rng i k d).2 e.size⟩,a.dis⟩,
  λf j=>bF.same (g f j) (λ_ h=>h) (λk _ b=>e.block k b)⟩
def aW (M M':V6 bF):Prop:=∃g:Nat->Nat,(∀i j,i<M'.length->j<M'.length->g i=g j->i=j)/\∀(i:Nat) (m:bF),M'[i]?=some m->M[g i]?=some m
theorem aW.refl (M:V6 bF):aW M M:=⟨id,λ_ _ _ _ h=>h,λ_ _ h=>h⟩
theorem aW.nil {M:V6 bF}:aW M []:=⟨id,λ_ _ h=>by simp at h,λ_ _ h=>by simp at h⟩
theorem aW.cons {M l:V6 bF} (i:Nat) {m:bF} (h:M[i]?=some m) (r:aW (M.eraseIdx i) l):aW M (m::l):=by
 have⟨g,p,q⟩:=r;let e:Nat->Nat:=λj=>match j with|0=>i|j+1=>if g j<i then g j else g j+1
 have t:i<M.length:=by
  rcases zAy i M.length with k|k
  .exact k
  .rw[zAs k]at h;cases h
 refine⟨e,?_,?_⟩
 .intro a b n o c;cases a with
  |zero=>
   cases b with
   |zero=>rfl
   |succ b=>simp only[e]at c;split at c<;>omega
  | succ a =>
   cases b with
   |zero=>simp only[e]at c;split at c<;>omega
   |succ b=>
    simp only[zA3]at n o;have:g a=g b:=by simp only[e]at c;split at c<;>split at c<;>omega
    have:=p a b V7 V7 this;omega
 .intro j s f;cases j with
  |zero=>simp at f;subst f;exact h
  |succ j=>
   simp only[List.getElem?_cons_succ]at f;have:=q j s f;rw[List.getElem?_eraseIdx]at this;simp only[e];split
   .rename_i d;rwa[if_pos d]at this
   .rename_i d;rwa[if_neg d]at this
theorem St.weak {c:zW} {M L d L':V6 bF} {w:V2} (h:St c M L w) (r:aW M d) (q:∀f∈L',f∈L):St c d L' w:=by
 have⟨v,F,l,s⟩:=h;have⟨g,t,u⟩:=r;refine⟨v,λi k=>i<d.length/\F (g i) k,⟨λi m a=>?_,λi k b=>l.rng _ k b.2,λi j k a p=>t i j a.1 p.1 (l.dis _ _ k a.2 p.2)⟩,λf n=>?_⟩
 .have o:i<d.length:=by
   rcases zAy i d.length with e|e
   .exact e
   .rw[zAs e]at a;cases a
  exact bF.same (l.res _ m (u i m a)) (λk b=>⟨o,b⟩) (λ_ _ _=>rfl)
 .exact bF.same (s f (q f n)) (λk b=>⟨b.1,λi a=>b.2 _ a.2⟩) (λ_ _ _=>rfl)
def jS (L a:V6 bF):Prop:=∀f∈a,f∈L
theorem jS.nil {L:V6 bF}:jS L []:=λ_ h=>by simp at h
theorem jS.cons {L b:V6 bF} {f:bF} (h:f∈L) (r:jS L b):jS L (f::b):=λg a=>by
 rcases zAi.1 a with rfl|a
 .exact h
 .exact r g a
def J (c:zW) (n:Sz) (b:Fr) (M L:V6 bF) (G:Act->V2->Prop):Prop:=∀a w,Kl n b a->St c M L w->G a w
section rules
variable {P:Program} {rd:V1 Nat} {c:zW} {n:Sz} {σ σ':Fr} {M M' L L':V6 bF} {G G':Act->V2->Prop} {Q:Exit->Act->V2->Prop}
theorem Zz (h:J c n σ M L G) (g:∀a w,G a w->G' a w):J c n σ M L G':=λa w s t=>g a w (h a w s t)
theorem afP (h:J c n σ' M' L' G) (e:Ej σ σ') (d:aW M M') (b:∀f∈L',f∈L):J c n σ M L G:=
 λa w s t=>h a w (s.weak e) (t.weak d b)
theorem aI {x y:Code} (h:J c n σ M L (x.wpr rd P (Exit.then (y.wpr rd P Q) Q))):J c n σ M L ((Code.seq x y).wpr rd P Q):=λa w s t=>Yf (h a w s t)
theorem aU {id:Nat} {x:Code} (h:J c n σ M L (x.wpr rd P (Exit.inBlock id Q))):J c n σ M L ((Code.block id x).wpr rd P Q):=λa w s t=>QR (h a w s t)
theorem cZ (h:J c n σ M L (Q .normal)):J c n σ M L (Code.skip.wpr rd P Q):=λa w s t=>UL (h a w s t)
theorem uS {id:Nat} (h:J c n σ M L (Q (.exit id))):J c n σ M L ((Code.exit id).wpr rd P Q):=λa w s t=>UK (h a w s t)
theorem aP (h:J c n σ M L (Q .ret)):J c n σ M L (Code.ret.wpr rd P Q):=λa w s t=>Ye (h a w s t)
theorem QX {x:V3} {e d:Code} {b:V4} (i:ev σ x=some (.bool b)) (g:b=true->J c n σ M L (e.wpr rd P Q)) (f:b=false->J c n σ M L (d.wpr rd P Q)):
  J c n σ M L ((Code.cond x e d).wpr rd P Q):=λa w s t=>Jo (s.eval i) (λh=>g h a w s t) (λh=>f h a w s t)
theorem WA {x:V3} {a b:Code} (d:ev σ x=some (.bool true)) (h:J c n σ M L (a.wpr rd P Q)):J c n σ M L ((Code.cond x a b).wpr rd P Q):=QX d (λ_=>h) (λh=>by cases h)
theorem Np {x:V3} {d a:Code} (b:ev σ x=some (.bool false)) (h:J c n σ M L (a.wpr rd P Q)):J c n σ M L ((Code.cond x d a).wpr rd P Q):=QX b (λh=>by cases h) (λ_=>h)
theorem aL {id:Nat} {l:V6 V5} (h:J c n σ M L (wpList P l.toArray Q l)) (b:l.all lW=true:=by rfl):J c n σ M L ((Code.region id l.toArray false).wpr rd P Q):=λa w s t=>yX b (h a w s t)
theorem dK {a:Array V5} (h:J c n σ M L (Q .normal)):J c n σ M L (wpList P a Q []):=h
variable {K:Act->V2->Prop}
theorem HD (h:J c n σ M L K):J c n σ M L (Exit.then K Q .normal):=h
theorem gY {id:Nat} (h:J c n σ M L (Q (.exit id))):J c n σ M L (Exit.then K Q (.exit id)):=h
theorem aG (h:J c n σ M L (Q .ret)):J c n σ M L (Exit.then K Q .ret):=h
theorem JO {id:Nat} (h:J c n σ M L (Q .normal)):J c n σ M L (Exit.inBlock id Q .normal):=h
theorem bB {id:Nat} (h:J c n σ M L (Q .ret)):J c n σ M L (Exit.inBlock id Q .ret):=h
theorem BC {id:Nat} (h:J c n σ M L (Q .normal)):J c n σ M L (Exit.inBlock id Q (.exit id)):=λa w s t=>by
 simp only[Exit.inBlock,if_true];exact h a w s t
def Inv {X:Type} (c:zW) (n:Sz) (C:X->Prop) (b:X->Fr) (e d:X->V6 bF) (f:X->Nat) (m:Nat) (a:Act) (w:V2):Prop:=
 ∃x,C x/\f x<m/\Kl n (b x) a/\St c (e x) (d x) w
theorem Zy {X:Type} {d:Code} (C:X->Prop) (o:X->Fr) (D B:X->V6 bF) (H:X->Nat) (A:X) (h0:C A)
  (U:Ej σ (o A)) (hM:aW M (D A)) (hL:∀f∈B A,f∈L)
  (r:∀x,C x->J c n (o x) (D x) (B x) (d.wpr rd P (Exit.then (Inv c n C o D B H (H x)) Q))):J c n σ M L ((Code.loop d).wpr rd P Q):=by
 intro a w s t b k I T O S;have Y:∀m x a w,H x=m->C x->Kl n (o x) a->St c (D x) (B x) w->
   ∃e E F,Q e E F/\ArrivesIn (Machine.fenced P (FR rd)) P (lone (b.atR a (.code d :: .inLoop d::k)) I w) b k I e E F:=by
  intro m
  induction m using Nat.strongRecOn with
  | _ m ih =>
   intro x a w hm hC U ht;have⟨e,h,i,p,g⟩:=r x hC a w U ht b (.inLoop d::k) I T O S;cases e with
   |normal=>
    have⟨y,N,R,V,W⟩:=p;have⟨v,u,z,q,j⟩:=ih (H y) (hm▸R) y h i Z N V W;exact⟨v,u,z,q,.of_steps (StepsIn.trans g (.one (fenced_calm O S Z) stepR_inLoop)) j⟩
   |exit id=>exact⟨_,h,i,p,.pass (x:= .inLoop d) Z (λ_ _=>.inl V8) g⟩
   |goto l=>exact⟨_,h,i,p,.pass (x:= .inLoop d) Z (λ_ _=>.inl V8) g⟩
   |ret=>exact⟨_,h,i,p,.pass (x:= .inLoop d) Z (λ_ _=>.inl V8) g⟩
   |panic ch=>exact⟨_,h,i,p,.pass (x:= .inLoop d) Z (λ_ _=>.inl V8) g⟩
   |outgrown=>exact⟨_,h,i,p,.pass (x:= .inLoop d) Z (λ_ _=>.inl V8) g⟩
 have⟨e,E,F,p,g⟩:=Y _ A a w Z h0 (s.weak U) (t.weak hM hL);exact⟨e,E,F,p,.of_steps (.one (fenced_calm O S Z) stepR_loop) g⟩
def Y (P:Program) (c:zW) (n:Sz) (σ:Fr) (M L:V6 bF) (o:V5) (v:V0):Prop:=
 ∀a w,Kl n σ a->St c M L w->(execOp a.eval o).run P w = .ok (.value v) w
theorem qK {d:Array V5} {b:V6 V5} {o:V5} {a:Act} {w:V2} (e:Region.wanted o (yielded d a.tmps)=true)
  (h:o.wp P a w (wpList P d Q b) Q):wpList P d Q (o::b) a w:=by
 unfold wpList;rw[if_pos e];exact .inl h
theorem aC {f:Array V5} {b:V6 V5} {d:Nat} {i:Op} {j:V9} {g:String} {e:Array Edge} {v:V0}
  (l:Y P c n σ M L ⟨some d,i,j,g,e,none⟩ v) (k:Nat.blt d n.sz=true) (h:J c n ((d,v)::σ) M L (wpList P f Q b)):
  J c n σ M L (wpList P f Q (⟨some d,i,j,g,e,none⟩::b)):=λa w s t=>
 qK Z (by simp only[Oper.wp,l a w s t,Oper.upon];exact h _ w (s.put d v k) t)
def gv (a:Array V5) (σ:Fr) (j:Nat):V1 V4:=
 match ((a[j]?).bind (·.dst)).bind (lk σ)with
 |some (.bool b)=>some b
 |_=>none
theorem Dc {e:Array V5} {j:Nat} {b:V4} {a:Act} (s:Kl n σ a) (h:gv e σ j=some b):yielded e a.tmps j=some b:=by
 unfold gv at h;unfold yielded;cases g:(e[j]?).bind (·.dst)with
 |none=>simp[g]at h
 | some d =>
  simp only[g,Option.bind_some]at h ⊢;cases f:lk σ d with
  |none=>simp[f]at h
  |some v=>
   rw[s.slot d v f];rw[f]at h;cases v<;>first|exact h|cases h
theorem aF {f:Array V5} {e:V6 V5} {d:Nat} {k:Op} {l:V9} {i:String} {g:Array Edge} {j:Nat} {b:V4} {v:V0}
  (o:gv f σ j=some b) (p:Y P c n σ M L ⟨some d,k,l,i,g,some (j,b)⟩ v) (m:Nat.blt d n.sz=true) (h:J c n ((d,v)::σ) M L (wpList P f Q e)):
  J c n σ M L (wpList P f Q (⟨some d,k,l,i,g,some (j,b)⟩::e)):=λa w s t=>
 qK (by simp[Region.wanted,Dc s o]) (by simp only[Oper.wp,p a w s t,Oper.upon];exact h _ w (s.put d v m) t)
theorem Zx {f:Array V5} {e:V6 V5} {d:Nat} {p:Op} {q:V9} {i:String} {g:Array Edge} {j:Nat} {b k:V4}
  (o:gv f σ j=some k) (l:(k==b)=false) (m:Nat.blt d n.sz=true) (h:J c n ((d,undef)::σ) M L (wpList P f Q e)):
  J c n σ M L (wpList P f Q (⟨some d,p,q,i,g,some (j,b)⟩::e)):=λa w s t=>by
 unfold wpList;rw[if_neg (by simp[Region.wanted,Dc s o,l])];exact h _ w (s.put d undef m) t
theorem Kl.over {n:Sz} {σ:Fr} {a:Act} (h:Kl n σ a) {d:Nat} {v:V0} (f:a.tmps[d]?=some v):Kl n ((d,v)::σ) a:=
 ⟨h.defers,h.size,λt u b=>by
  simp only[lk]at b;by_cases e:t=d
  .subst e;simp at b;subst b;exact f
  .rw[qT e]at b;exact h.slot t u b⟩
theorem iO {f:Array V5} {e:V6 V5} {d:V1 Tmp} {l:Op} {m:V9} {h:String} {g:Array Edge} {j k:Nat} {i b:V4}
  (_:(f[j]?).bind (·.dst)=some k) (o:lk σ k=some (.bool i)) (q:i=true->J c n ((k,.bool true)::σ) M L (wpList P f Q (⟨d,l,m,h,g,some (j,b)⟩::e)))
  (p:i=false->J c n ((k,.bool false)::σ) M L (wpList P f Q (⟨d,l,m,h,g,some (j,b)⟩::e))):
  J c n σ M L (wpList P f Q (⟨d,l,m,h,g,some (j,b)⟩::e)):=by
 cases i
 .exact λa w s t=>p Z a w (s.over (s.slot _ _ o)) t
 .exact λa w s t=>q Z a w (s.over (s.slot _ _ o)) t
theorem Zw {e:Array V5} {a:V6 V5} {d:V1 Tmp} {k:Op} {l:V9} {g:String} {f:Array Edge} {j i:Nat} {p:Prop} {_:Decidable p} {b:V4}
  (m:(e[j]?).bind (·.dst)=some i) (q:lk σ i=some (.bool (decide p))) (r:p->J c n ((i,.bool true)::σ) M L (wpList P e Q (⟨d,k,l,g,f,some (j,b)⟩::a)))
  (o:¬p->J c n ((i,.bool false)::σ) M L (wpList P e Q (⟨d,k,l,g,f,some (j,b)⟩::a))):
  J c n σ M L (wpList P e Q (⟨d,k,l,g,f,some (j,b)⟩::a)):=
 iO m q (λh=>r (of_decide_eq_true h)) (λh=>o (of_decide_eq_false h))
theorem acq {x:V3} {b a:Code} {p:Prop} {_:Decidable p} (f:ev σ x=some (.bool (decide p))) (e:p->J c n σ M L (b.wpr rd P Q)) (d:¬p->J c n σ M L (a.wpr rd P Q)):
  J c n σ M L ((Code.cond x b a).wpr rd P Q):=QX f (λh=>e (of_decide_eq_true h)) (λh=>d (of_decide_eq_false h))
end rules
structure Ty where
 desc:TypeDesc
 size:Nat
 bytes:Nat
 zero:V0
structure xG (P:Program) (T:Nat) (d:Ty):Prop where
 und:P.underlying T=some d.desc
 info:∃i,P.info? T=some i/\i.size=d.size/\i.bytes=d.bytes/\i.zero=some d.zero
class eB (P:Program) where
 tab:Nat->Option Ty
 ok:∀{T d},tab T=some d->xG P T d
section
variable {P:Program} {T:Nat} {d:Ty} (w:V2)
theorem xG.run_und (h:xG P T d):(underlying T).run P w = .ok d.desc w:=run_underlying h.und w
theorem xG.run_size (h:xG P T d):(sizeOf T).run P w = .ok d.size w:=by
 have⟨i,a,b,_,_⟩:=h.info;simp[sizeOf,typeInfo,a,b]
theorem xG.run_zero (h:xG P T d):(zeroValue T).run P w = .ok d.zero w:=by
 have⟨i,a,_,_,b⟩:=h.info;simp[zeroValue,typeInfo,a,b]
def Bh:TypeDesc->V4
 | .struct _ | .array _ _=>true
 |_=>false
theorem xG.run_agg (h:xG P T d):(isAgg T).run P w = .ok (Bh d.desc) w:=by
 simp only[isAgg];simp[h.run_und w];cases d.desc<;>rfl
end
section
variable {P:Program} {rd:V1 Nat} {c:zW} {n:Sz} {σ:Fr} {M L:V6 bF}
variable {d:V1 Tmp} {ty:V9} {pos:String} {aft:Array Edge} {g:V1 (Nat×V4)}
theorem fN {x:V3} {v:V0} (b:ev σ x=some v):Y P c n σ M L ⟨d,.move x,ty,pos,aft,g⟩ v:=λa w s _=>by
 simp[execOp,s.eval b]
theorem BE {x:V3} {v:V0} (b:ev σ x=some v):Y P c n σ M L ⟨d,.assign x,ty,pos,aft,g⟩ v:=λa w s _=>by
 simp[execOp,s.eval b]
theorem wR {x y z:V3} {v:V0} (b:ev σ x=some (.bool true)) (e:ev σ y=some v):Y P c n σ M L ⟨d,.pick x y z,ty,pos,aft,g⟩ v:=λa w s _=>by
 simp[execOp,s.eval b,s.eval e,asBool]
theorem sG {x y z:V3} {v:V0} (b:ev σ x=some (.bool false)) (e:ev σ z=some v):Y P c n σ M L ⟨d,.pick x y z,ty,pos,aft,g⟩ v:=λa w s _=>by
 simp[execOp,s.eval b,s.eval e,asBool]
theorem QS {x:Int} (a : -9223372036854775808<=x) (b:x<=9223372036854775807):IntKind.i64.wrap x=x:=by
 unfold IntKind.wrap;simp only[IntKind.bits,IntKind.signed];simp;omega
theorem mF {a:BinOp} {t:V9} {x y:V3} {k b:IntKind} {p q:Int} (w:V2):(eqGuard a t x y (.int k p) (.int b q)).run P w = .ok () w:=by
 unfold eqGuard;cases a<;>simp
theorem afc {t f:V9} {x y:V3} {k:IntKind} {p q:Int} (b:ev σ x=some (.int k p)) (e:ev σ y=some (.int k q)) (h:q≠0):
  Y P c n σ M L ⟨d,.binOp .rem t x y f,ty,pos,aft,g⟩ (.int k (p.tmod q)):=λa w s _=>by
 simp[execOp,s.eval b,s.eval e,binOp,Op.intDiv,mF,h]
theorem Hg {t f:V9} {x y:V3} {k:IntKind} {p q:Int} (b:ev σ x=some (.int k p)) (e:ev σ y=some (.int k q)):
  Y P c n σ M L ⟨d,.binOp .lss t x y f,ty,pos,aft,g⟩ (.bool (decide (p<q))):=λa w s _=>by
 simp[execOp,s.eval b,s.eval e,binOp,Op.intCmp,mF]
theorem nH {t f:V9} {x y:V3} {k:IntKind} {p q:Int} (b:ev σ x=some (.int k p)) (e:ev σ y=some (.int k q)):
  Y P c n σ M L ⟨d,.binOp .leq t x y f,ty,pos,aft,g⟩ (.bool (decide (p<=q))):=λa w s _=>by
 simp[execOp,s.eval b,s.eval e,binOp,Op.intCmp,mF]
theorem mA {t f:V9} {x y:V3} {k:IntKind} {p q:Int} (b:ev σ x=some (.int k p)) (e:ev σ y=some (.int k q)):
  Y P c n σ M L ⟨d,.binOp .gtr t x y f,ty,pos,aft,g⟩ (.bool (decide (q<p))):=λa w s _=>by
 simp[execOp,s.eval b,s.eval e,binOp,Op.intCmp,mF]
theorem lD {t f:V9} {x y:V3} {k:IntKind} {p q:Int} (b:ev σ x=some (.int k p)) (e:ev σ y=some (.int k q)):
  Y P c n σ M L ⟨d,.binOp .geq t x y f,ty,pos,aft,g⟩ (.bool (decide (q<=p))):=λa w s _=>by
 simp[execOp,s.eval b,s.eval e,binOp,Op.intCmp,mF]
theorem oV {t f:V9} {x y:V3} {k:IntKind} {p q:Int} (b:ev σ x=some (.int k p)) (e:ev σ y=some (.int k q)):
  Y P c n σ M L ⟨d,.binOp .eql t x y f,ty,pos,aft,g⟩ (.bool (decide (p=q))):=λa w s _=>by
 simp[execOp,s.eval b,s.eval e,binOp,Op.intCmp,mF];by_cases h:p=q<;>simp[h]
theorem xH {t f:V9} {x y:V3} {k:IntKind} {p q:Int} (b:ev σ x=some (.int k p)) (e:ev σ y=some (.int k q)):
  Y P c n σ M L ⟨d,.binOp .neq t x y f,ty,pos,aft,g⟩ (.bool (decide (p≠q))):=λa w s _=>by
 simp[execOp,s.eval b,s.eval e,binOp,Op.intCmp,mF];by_cases h:p=q<;>simp[h]
theorem fF {t:V9} {x:V3} {b:V4} (e:ev σ x=some (.bool b)):Y P c n σ M L ⟨d,.unOp .not t x,ty,pos,aft,g⟩ (.bool (!b)):=λa w s _=>by
 simp[execOp,s.eval e,Op.unary]
theorem CZ {x:V3} {vs:V6 V0} {i:Nat} {v:V0} (e:ev σ x=some (.tuple vs.toArray)) (b:vs[i]?=some v):Y P c n σ M L ⟨d,.extract x i,ty,pos,aft,g⟩ v:=λa w s _=>by
 simp[execOp,s.eval e,Instr.extract,b]
theorem Gm {t f:V9} {x y:V3} {k:IntKind} {p q:Int} (b:ev σ x=some (.int k p)) (e:ev σ y=some (.int k q)):
  Y P c n σ M L ⟨d,.call ⟨.builtin .max,#[x,y],#[t,f]⟩,ty,pos,aft,g⟩ (.int k (max p q)):=λa w s _=>by
 simp[execOp,resolve,invoke,builtin,s.eval b,s.eval e,Builtin.max_,Builtin.max2];split<;>omega
theorem afb {t f:V9} {x y:V3} {k:IntKind} {p q:Int} (b:ev σ x=some (.int k p)) (e:ev σ y=some (.int k q)):
  Y P c n σ M L ⟨d,.call ⟨.builtin .min,#[x,y],#[t,f]⟩,ty,pos,aft,g⟩ (.int k (min p q)):=λa w s _=>by
 simp[execOp,resolve,invoke,builtin,s.eval b,s.eval e,Builtin.min_,Builtin.min2];split<;>omega
theorem Kn {e:Fn} {cs:V6 V3} {vs:V6 V0} (b:cs.map (ev σ)=vs.map some):Y P c n σ M L ⟨d,.makeFunc e #[] cs.toArray,ty,pos,aft,g⟩ (.func e #[] vs.toArray):=λa w s _=>by
 have:cs.map a.eval=vs:=by
  induction cs generalizing vs with
  |nil=>cases vs<;>simp_all
  |cons x cs f=>
   cases vs with
   |nil=>simp at b
   |cons v vs=>simp at b;simp[s.eval b.1,f b.2]
 simp[execOp,Instr.makeFunc,this]
end
def at' {a:Type} [Inhabited a] (xs:V6 a) (i:Int):a:=xs.getD i.toNat default
theorem jI {a:Type} [Inhabited a] {xs:V6 a} {i:Int} (b:0<=i) (h:i<xs.length):xs[i.toNat]?=some (at' xs i):=by
 unfold at';rw[zAm,zA1 V7];rfl
theorem BH {b:Type} [Inhabited b] (a:V6 b) (i:Nat):at' a (i:Int)=a.getD i default:=by simp[at']
def PE (v:V0) (o:Nat):Addr:=match v with
 | .slice (some a) _ _=>a.add o
 |_=>⟨0,o,none⟩
def IR (v:V0) (o:Nat):V0:= .pointer (some (PE v o))
theorem QT (a:Addr) (o p:Nat):(a.add o).add p=a.add (o+p):=by
 unfold Addr.add;by_cases b:o=0<;>by_cases c:p=0<;>simp[b,c,Nat.add_assoc]
theorem NF (v:V0) (o p:Nat):(PE v o).add p=PE v (o+p):=by
 unfold PE;split
 .exact QT _ _ _
 .unfold Addr.add;split<;>simp_all
theorem gQ (b a o:Nat):(⟨b,a,none⟩:Addr).add o=⟨b,a+o,none⟩:=by
 unfold Addr.add;split<;>simp_all
def bU (b:Nat) (cs:V6 V0) (T:V9):bF where
 p w F:=F b/\w.heap[b]?=some (.cells cs.toArray T (0,0))
 mono:=fun⟨c,a⟩ h=>by
  have⟨d,e⟩:=h b c (zA8.1 a).1;exact⟨d,by rw[e];exact a⟩
theorem bU.cell {b:Nat} {cs:V6 V0} {T:V9} {w:V2} {F:Nat->Prop} (h:(bU b cs T).p w F) {o:Nat} {v:V0} (a:cs[o]?=some v):w.cell? ⟨b,o,none⟩=some v:=by
 simp[World.cell?,h.2,a]
theorem Zq {b:Nat} {a:V6 V0} {T:V9} {w:V2} {F:Nat->Prop} (h:(bU b a T).p w F) (o:Nat):w.frozen? ⟨b,o,none⟩=false:=by
 simp[World.frozen?,h.2]
theorem St.res {c:zW} {M L:V6 bF} {w:V2} (t:St c M L w) {i:Nat} {m:bF} (h:M[i]?=some m):∃F,m.p w F:=by
 have⟨_,F,a,_⟩:=t;exact⟨_,a.res i m h⟩
theorem St.fact {c:zW} {M L:V6 bF} {w:V2} (t:St c M L w) {f:bF} (h:f∈L):∃S,f.p w S:=by
 have⟨_,F,_,a⟩:=t;exact⟨_,a f h⟩
structure iN (α:Type) where
 sz:Nat
 pos:0<sz
 R:World->(Nat->Prop)->List V0->α->Prop
 len:∀{w S cs x},R w S cs x->cs.length=sz
 mono:∀{w w':World} {S S':Nat->Prop} {cs x},R w S cs x->(∀k,S k->k<w.heap.size->S' k/\w'.heap[k]?=w.heap[k]?)->R w' S' cs x
def LG {h:Type} (r:iN h) (w:V2) (S:Nat->Prop) (v:V0) (f:V6 h):Prop:=
 ∃a c,v = .slice a f.length c/\(f.length<=9223372036854775807/\f.length<=c)/\(f=[]\/∃b d,a=some ⟨b,d,none⟩/\S b/\
  ∀i x,f[i]?=some x->∃g,(∀j e,g[j]?=some e->w.cell? ⟨b,d+(i*r.sz+j),none⟩=some e)/\r.R w S g x)
theorem Yu {w a:V2} {b o:Nat} {e:V0} (h:w.cell? ⟨b,o,none⟩=some e) (c:a.heap[b]?=w.heap[b]?):a.cell? ⟨b,o,none⟩=some e:=by
 rw[<-h];exact World.cell?_of_block c
theorem VK {w:V2} {b o:Nat} {e:V0} (h:w.cell? ⟨b,o,none⟩=some e):b<w.heap.size:=World.block_lt_of_cell? w _ h
theorem LG.mono {q:Type} {r:iN q} {w w':V2} {S p:Nat->Prop} {v:V0} {f:V6 q} (h:LG r w S v f)
  (e:∀k,S k->k<w.heap.size->p k/\w'.heap[k]?=w.heap[k]?):LG r w' p v f:=by
 have⟨a,g,C,z,h⟩:=h;refine⟨a,g,C,z,?_⟩
 rcases h with h|⟨b,o,y,t,h⟩
 .exact .inl h
 .cases f with
  |nil=>exact .inl Z
  |cons F f=>
   have⟨d,c,n⟩:=h 0 F Z;have G:=r.len n;have A:=r.pos;have s:d[0]?=some (d[0]'V7):=zA1 _;have m:=VK (c 0 _ s);have⟨l,D⟩:=e b t m;refine .inr ⟨b,o,y,l,λi x E=>?_⟩;have⟨d,c,n⟩:=h i x E;exact⟨d,λj u B=>Yu (c j u B) D,r.mono n e⟩
def Sl {a:Type} (r:iN a) (v:V0) (b:V6 a):bF where
 p w S:=LG r w S v b
 mono:=λh e=>h.mono e
def iN.int (k:IntKind):iN Int where
 sz:=1
 pos:=Nat.one_pos
 R _ _ cs x:=cs=[.int k x]
 len h:=by simp[h]
 mono h _:=h
def iN.bool:iN V4 where
 sz:=1
 pos:=Nat.one_pos
 R _ _ cs x:=cs=[.bool x]
 len h:=by simp[h]
 mono h _:=h
def iN.sl {a:Type} (r:iN a):iN (V0×V6 a) where
 sz:=1
 pos:=Nat.one_pos
 R w S cs x:=cs=[x.1]/\LG r w S x.1 x.2
 len h:=by simp[h.1]
 mono h e:=⟨h.1,h.2.mono e⟩
def iN.pair {g i:Type} (r:iN g) (s:iN i):iN (g×i) where
 sz:=r.sz+s.sz
 pos:=zAw r.pos (Nat.le_add_right _ _)
 R w S cs x:=∃a b,cs=a++b/\r.R w S a x.1/\s.R w S b x.2
 len h:=by have⟨a,b,f,c,d⟩:=h;simp[f,r.len c,s.len d]
 mono h e:=by have⟨a,b,f,c,d⟩:=h;exact⟨a,b,f,r.mono c e,s.mono d e⟩
def iN.Cell {a:Type} (r:iN a) (j:Nat) (f:a->V0):Prop:=∀{w S es x},r.R w S es x->es[j]?=some (f x)
theorem KN (k:IntKind):(iN.int k).Cell 0 (λx=>.int k x):=λh=>by simp[show _=[_]from h]
theorem iN.sl_cell {a:Type} (r:iN a):(iN.sl r).Cell 0 (λx=>x.1):=λh=>by simp[h.1]
theorem mT {b e:Type} {r:iN b} {s:iN e} {j:Nat} {f:b->V0} (h:r.Cell j f):(r.pair s).Cell j (λx=>f x.1):=by
 rintro w S i x ⟨c,g,rfl,d,_⟩;have:=h d;rw[zAe (by
  rcases zAy j c.length with a|a
  .exact a
  .rw[zAs a]at this;cases this)]
 exact this
theorem gG {d b:Type} {r:iN d} {s:iN b} {j:Nat} {f:b->V0} (h:s.Cell j f):(r.pair s).Cell (r.sz+j) (λx=>f x.2):=by
 rintro w S i x ⟨e,g,rfl,a,c⟩;rw[zA9 (by rw[r.len a];omega),r.len a,Nat.add_sub_cancel_left];exact h c
section
variable {P:Program} {rd:V1 Nat} {c:zW} {n:Sz} {σ:Fr} {M L:V6 bF}
variable {d:V1 Tmp} {ty:V9} {pos:String} {aft:Array Edge} {g:V1 (Nat×V4)}
variable {α:Type} {r:iN α}
theorem Sg {T:V9} {e:Ty} {E:V9} (w:V2) (f:xG P T e) (h:e.desc = .slice E) (a:V1 Addr) (k b:Nat) (ty:V9):
  (Builtin.len_ #[T] ty #[.slice a k b]).run P w = .ok (.int .i64 k) w:=by
 simp[Builtin.len_,f.run_und w,h,goInt]
theorem Mu {T E:V9} {h f:Ty} (w:V2) (o:xG P T h) (p:h.desc = .slice E) (m:xG P E f) (b e k a:Nat) (i:Int) (j:0<=i) (l:i<k):
  (Instr.indexAt T (.slice (some ⟨b,e,none⟩) k a) (.int .i64 i)).run P w = .ok (IR (.slice (some ⟨b,e,none⟩) k a) (i.toNat*f.size)) w:=by
 simp[Instr.indexAt,asIntOf,o.run_und w,p,m.run_size w,j,l,IR,PE]
theorem cB [eB P] {T:V9} {D E h F:Nat} {z H:V0} {i:Array Field} {B G C:String} {m:V4} {j b k:Nat} {l:TypeDesc} {x:V3} {v:V0} {o f:Nat} (A:ev σ x=some (IR v o))
  (u:eB.tab P T=some ⟨.struct i,D,E,z⟩) (y:i[f]?=some ⟨B,j,b,m,G,C,k⟩) (q:eB.tab P j=some ⟨l,h,F,H⟩) (p:(h==0)=false):
  Y P c n σ M L ⟨d,.fieldAddr T x f,ty,pos,aft,g⟩ (IR v (o+b)):=λa w s t=>by
 have e:h≠0:=by simpa using p
 simp[execOp,s.eval A,Instr.fieldAt,(eB.ok u).run_und w,y,Instr.sureAddr,IR,fieldPlace,(eB.ok q).run_size w,e,NF]
theorem zQ {T:V9} {a:Ty} {w:V2} (b:xG P T a) (f:Bh a.desc=false) {A:Addr} {e:V0} (h:w.cell? A=some e):
  (Instr.loadAt T (.pointer (some A))).run P w = .ok e w:=by
 simp[Instr.loadAt,Instr.sureAddr,loadVar,b.run_agg w,f,load,Sem.run,h]
theorem sl_cell {w:V2} {S:Nat->Prop} {v:V0} {l:V6 α} (h:LG r w S v l) {i:Nat} {x:α} (k:l[i]?=some x):
  ∃a,r.R w S a x/\∀j e,a[j]?=some e->w.cell? (PE v (i*r.sz+j))=some e:=by
 have⟨t,m,q,_,h⟩:=h;rcases h with h|⟨b,s,rfl,_,h⟩
 .subst h;simp at k
 .have⟨a,f,p⟩:=h i x k;refine⟨a,p,λj e o=>?_⟩
  subst q;simp only[PE,gQ];exact f j e o
end
section
variable {P:Program} {rd:V1 Nat} {c:zW} {n:Sz} {σ:Fr} {M L:V6 bF} {Q:Exit->Act->V2->Prop} {ops:Array V5} {rest:V6 V5}
variable {d:V1 Tmp} {D:Nat} {ty:V9} {pos:String} {aft:Array Edge} {g:V1 (Nat×V4)}
theorem bR [eB P] {T:V9} {C E i F:Nat} {z H:V0} {j:Array Field} {A G B:String} {p:V4} {k e l:Nat} {m:TypeDesc} {x:V3} {b o f:Nat} (y:ev σ x=some (.pointer (some ⟨b,o,none⟩)))
  (u:eB.tab P T=some ⟨.struct j,C,E,z⟩) (v:j[f]?=some ⟨A,k,e,p,G,B,l⟩) (r:eB.tab P k=some ⟨m,i,F,H⟩) (q:(i==0)=false):
  Y P c n σ M L ⟨d,.fieldAddr T x f,ty,pos,aft,g⟩ (.pointer (some ⟨b,o+e,none⟩)):=λa w s t=>by
 have h:i≠0:=by simpa using q
 simp[execOp,s.eval y,Instr.fieldAt,(eB.ok u).run_und w,v,Instr.sureAddr,fieldPlace,(eB.ok r).run_size w,h,gQ]
theorem bX [eB P] (i:Nat) {T f:V9} {q r:Nat} {z:V0} {e:TypeDesc} {x:V3} {b o:Nat} {cs:V6 V0} {v:V0} (p:ev σ x=some (.pointer (some ⟨b,o,none⟩)))
  (j:M[i]?=some (bU b cs f)) (k:eB.tab P T=some ⟨e,q,r,z⟩) (l:Bh e=false) (m:cs[o]?=some v):
  Y P c n σ M L ⟨d,.load T x,ty,pos,aft,g⟩ v:=λa w s t=>by
 have⟨F,h⟩:=t.res j;simp[execOp,s.eval p,zQ (eB.ok k) l (bU.cell h m)]
theorem GB {T:V9} {a:Ty} {w:V2} (b:xG P T a) (e:Bh a.desc=true) {A:Addr} {cs:V6 V0} (f:cs.length=a.size) (h:∀j v,cs[j]?=some v->w.cell? (A.add j)=some v):
  (Instr.loadAt T (.pointer (some A))).run P w = .ok (.agg cs.toArray) w:=by
 have:=run_loadCells_list (P:=P) w A cs h;simp[Instr.loadAt,Instr.sureAddr,loadVar,b.run_agg w,e,b.run_size w,<-f,this]
theorem iC [eB P] (i:Nat) {T f:V9} {q:Nat} {z:V0} {e:TypeDesc} {x:V3} {b:Nat} {cs:V6 V0} (p:ev σ x=some (.pointer (some ⟨b,0,none⟩)))
  (k:M[i]?=some (bU b cs f)) (l:eB.tab P T=some ⟨e,cs.length,q,z⟩) (m:Bh e=true):
  Y P c n σ M L ⟨d,.load T x,ty,pos,aft,g⟩ (.agg cs.toArray):=λa w s t=>by
 have⟨F,h⟩:=t.res k;have:=GB (w:=w) (A:=⟨b,0,none⟩) (cs:=cs) (eB.ok l) m Z (λj v o=>by rw[gQ,zB3];exact bU.cell h o);simp[execOp,s.eval p,this]
theorem St.alloc {w:V2} (t:St c M L w) (cs:V6 V0) (T:V9):St c (bU w.heap.size cs T::M) L (w.alloc (.cells cs.toArray T)):=by
 have e:UN w (w.alloc (.cells cs.toArray T)):=(Below.refl _ _).alloc (zAf _) _;have⟨s,F,a,u⟩:=t;have r:∀k,k<w.heap.size->(w.alloc (.cells cs.toArray T)).heap[k]?=w.heap[k]? := e.block;refine⟨s.trans e,λi k=>match i with|0=>k=w.heap.size|i+1=>F i k,⟨?_,?_,?_⟩,λf v=>?_⟩
 .intro i m q;cases i with
  |zero=>
   simp at q;subst q;exact⟨rfl,heap_alloc_new w _⟩
  |succ i=>exact bF.same (a.res i m (by simpa using q)) (λ_ h=>h) (λk _ p=>r k p)
 .intro i k l;cases i with
  |zero=>subst l;exact⟨.inl s.size,V8⟩
  |succ i=>exact⟨(a.rng i k l).1,zAw (a.rng i k l).2 e.size⟩
 .intro i j k b o;cases i with
  |zero=>
   cases j with
   |zero=>rfl
   |succ j=>have:=(a.rng j k o).2;simp only at b;omega
  |succ i=>
   cases j with
   |zero=>have:=(a.rng i k b).2;simp only at o;omega
   |succ j=>exact congrArg (· + 1) (a.dis i j k b o)
 .exact f.mono (u f v) λk l p=>⟨⟨l.1,λi b=>by
   cases i with
   |zero=>simp only at b;omega
   |succ i=>exact l.2 i b⟩,r k p⟩
theorem Mt {T:V9} {a:Ty} (w:V2) (b:xG P T a):(Instr.alloc T true (.tuple #[])).run P w = .ok (.pointer (some ⟨w.heap.size,0,none⟩)) (w.alloc (.cells a.zero.cells T)):=by
 simp[Instr.alloc,b.run_zero w,newVar,newRow]
theorem Nw {w s:V2} {F:Nat->Nat->Prop} (t:HE c.O c.w0 w) (l:Own c w M F) (S:∀f∈L,f.p w (HB c F)) {i:Nat} {m R:bF} (N:M[i]?=some m) (I:s.os=w.os) (J:s.tape=w.tape) (v:s.output=w.output) (u:w.heap.size<=s.heap.size)
  (B:∀k,k<w.heap.size->¬F i k->s.heap[k]?=w.heap[k]?) {F':Nat->Prop} (A:R.p s F') (b:∀k,F' k->F i k\/(w.heap.size<=k/\k<s.heap.size)):St c (M.set i R) L s:=by
 refine⟨⟨I.trans t.os,J.trans t.tape,v.trans t.output,zAz t.size u,λk a K=>(B k (zAw a t.size) (λE=>(l.rng i k E).1.elim (λh=>V7) K)).trans (t.block k a K)⟩,λj k=>(j=i/\F' k)\/(j≠i/\F j k),⟨?_,?_,?_⟩,λf T=>?_⟩
 .intro j U x;by_cases e:j=i
  .subst e;have H:j<M.length:=by
    rcases zAy j M.length with o|o
    .exact o
    .rw[zAs o]at N;cases N
   rw[zAh H]at x;cases x;exact bF.same A (λk a=>.inl ⟨rfl,a⟩) (λ_ _ _=>rfl)
  .rw[zAu (Ne.symm e)]at x;exact bF.same (l.res j U x) (λk a=>.inr ⟨e,a⟩) (λk a G=>B k G (λC=>e (l.dis j i k a C)))
 .rintro j k (⟨_,a⟩|⟨_,a⟩)
  .rcases b k a with a|⟨q,r⟩
   .exact⟨(l.rng i k a).1,zAw (l.rng i k a).2 u⟩
   .exact⟨.inl (zAz t.size q),r⟩
  .exact⟨(l.rng j k a).1,zAw (l.rng j k a).2 u⟩
 .rintro V W k (⟨y,q⟩|⟨y,q⟩) (⟨z,r⟩|⟨z,r⟩)
  .rw[y,z]
  .rcases b k q with q|⟨q,_⟩
   .exact absurd (l.dis _ _ k r q) z
   .have:=(l.rng _ k r).2;omega
  .rcases b k r with r|⟨r,_⟩
   .exact absurd (l.dis _ _ k q r) y
   .have:=(l.rng _ k q).2;omega
  .exact l.dis _ _ k q r
 .exact f.mono (S f T) λk a G=>⟨⟨a.1,by
   rintro j (⟨_,o⟩|⟨_,o⟩)
   .rcases b k o with o|⟨o,_⟩
    .exact a.2 _ o
    .omega
   .exact a.2 _ o⟩,B k G (a.2 i)⟩
theorem St.upd {w w':V2} (t:St c M L w) {i:Nat} {m s:bF} (r:M[i]?=some m) (l:w'.os=w.os) (q:w'.tape=w.tape) (a:w'.output=w.output) (o:w.heap.size<=w'.heap.size)
  (h:∀F,m.p w F->(∀k,F k->c.mine k/\k<w.heap.size)->(∀k,k<w.heap.size->¬F k->w'.heap[k]?=w.heap[k]?)/\∃e,s.p w' e/\∀k,e k->F k\/(w.heap.size<=k/\k<w'.heap.size)):
  St c (M.set i s) L w':=by
 have⟨x,F,f,u⟩:=t;have⟨v,e,j,b⟩:=h (F i) (f.res i m r) (f.rng i);exact Nw x f u r l q a o v j b
end
section
variable {P:Program} {rd:V1 Nat} {c:zW} {n:Sz} {σ:Fr} {M L:V6 bF} {Q:Exit->Act->V2->Prop} {ops:Array V5} {rest:V6 V5}
variable {d:V1 Tmp} {D:Nat} {ty:V9} {pos:String} {aft:Array Edge} {g:V1 (Nat×V4)}
def one:V0->V4
 | .agg _ | .tuple _=>false
 |_=>true
theorem eW {v:V0} (h:one v=true):v.cells = #[v]:=by cases v<;>first|rfl|cases h
theorem uR {v:V0} (h:one v=true):v.oneCell'=true:=by cases v<;>first|rfl|cases h
theorem KV {w:V2} {b o:Nat} {a:V6 V0} {T:V9} (h:w.heap[b]?=some (.cells a.toArray T (0,0))) (v:V0):
  (w.setCell ⟨b,o,none⟩ v).heap[b]?=some (.cells (a.set o v).toArray T (0,0)):=by
 simp[World.setCell,Array.getElem?_modify,h]
theorem St.store {w:V2} (t:St c M L w) {i b o:Nat} {cs:V6 V0} {T:V9} (f:M[i]?=some (bU b cs T)) (v:V0):
  St c (M.set i (bU b (cs.set o v) T)) L (w.setCell ⟨b,o,none⟩ v):=
 t.upd f Z Z Z (by simp[World.setCell]) λF a _=>⟨λk _ j=>Below.heap_setCell _ _ _ _ (λe=>j (by simp only at e;subst e;exact a.1)),
  F,⟨a.1,KV a.2 v⟩,λ_ h=>.inl h⟩
theorem OW {T:V9} {b:Ty} {w:V2} (j:xG P T b) (l:b.size=1) {A:Addr} {v e:V0} (f:one v=true) (h:w.cell? A=some e) (k:w.frozen? A=false):
  (Instr.storeAt T (.pointer (some A)) v).run P w = .ok () (w.setCell A v):=by
 have i:A.add 0=A:=rfl;have a:(store A v).run P w = .ok () (w.setCell A v):=by
  unfold store;cases v<;>first|(simp only[Sem.run,h,k];rfl)|cases f
 simp only[Instr.storeAt,Instr.sureAddr,storeVar,eW f];simp[j.run_size w,l,storeCells,i,a]
theorem i_ [eB P] (i:Nat) {T j:V9} {B:Nat} {z:V0} {m:TypeDesc} {x y:V3} {b o:Nat} {cs:V6 V0} {v:V0} (u:ev σ x=some (.pointer (some ⟨b,o,none⟩)))
  (A:ev σ y=some v) (r:one v=true) (l:M[i]?=some (bU b cs j)) (p:eB.tab P T=some ⟨m,1,B,z⟩) (q:Nat.blt o cs.length=true)
  (h:J c n σ (M.set i (bU b (cs.set o v) j)) L (wpList P ops Q rest)):
  J c n σ M L (wpList P ops Q (⟨none,.store T x y,ty,pos,aft,none⟩::rest)):=λa w s t=>by
 refine qK Z ?_;have⟨F,k⟩:=t.res l;have f:o<cs.length:=by simpa [zAp]using q
 have e:(execOp a.eval ⟨none,.store T x y,ty,pos,aft,none⟩).run P w = .ok .skip (w.setCell ⟨b,o,none⟩ v):=by
  simp[execOp,s.eval u,s.eval A,OW (eB.ok p) Z r (bU.cell k (zA1 f)) (Zq k o)]
 simp only[Oper.wp,e,Oper.upon];exact h _ _ s (t.store l v)
theorem St.fill {w:V2} (t:St c M L w) {i b:Nat} {cs a:V6 V0} {T:V9} (j:M[i]?=some (bU b cs T)):
  St c (M.set i (bU b a T)) L (w.setRow b a.toArray):=
 t.upd j Z Z Z V8 λF f _=>⟨λk _ l=>setRow_other w b k _ (λe=>l (by subst e;exact f.1)),
  F,⟨f.1,setRow_heap w b _ _ T _ f.2⟩,λ_ h=>.inl h⟩
theorem cO [eB P] (i:Nat) {T k:V9} {H:Nat} {z:V0} {r:TypeDesc} {x y:V3} {b:Nat} {cs vs:V6 V0} (E:ev σ x=some (.pointer (some ⟨b,0,none⟩)))
  (G:ev σ y=some (.agg vs.toArray)) (C:vs.all one=true) (q:M[i]?=some (bU b cs k)) (A:eB.tab P T=some ⟨r,vs.length,H,z⟩) (B:Nat.beq vs.length cs.length=true)
  (h:J c n σ (M.set i (bU b vs k)) L (wpList P ops Q rest)):
  J c n σ M L (wpList P ops Q (⟨none,.store T x y,ty,pos,aft,none⟩::rest)):=λa w s t=>by
 refine qK Z ?_;have⟨F,u⟩:=t.res q;have e:vs.length=cs.length:=zA4 B;have f:∀v∈vs,v.oneCell'=true:=λv p=>uR (by simpa using zA2.1 C v p);have⟨I,l,o,_,_⟩:=(eB.ok A).info;have m:=run_storeVar_row (P:=P) w b k T cs.toArray vs.toArray u.2 (by simp[l,o]) (by simp[e]) (by simpa using f);have j:(execOp a.eval ⟨none,.store T x y,ty,pos,aft,none⟩).run P w = .ok .skip (w.setRow b vs.toArray):=by
  simp[execOp,s.eval E,s.eval G,Instr.storeAt,Instr.sureAddr,m]
 simp only[Oper.wp,j,Oper.upon];exact h _ _ s (t.fill q)
def aZ (P:Program) (f:FuncId) (a:Array V0) (L:V6 bF) {A:Type} (b:A->V0) (l k:A->V6 bF->V6 bF):Prop:=
 ∀(i:V2) (j:Nat->Prop),(∀h∈L,h.p i j)->Calls P f a i λe m=>∃x:A,e = .returned (b x)/\St ⟨i,j,λ_=>False⟩ (l x []) (k x []) m
def ajf (m:Nat) (a F:Nat->Nat->Prop) (i k:Nat):Prop:=(i<m/\a i k)\/(m<=i/\F (i - m) k)
theorem Own.new {w:V2} {M:V6 bF} {F:Nat->Nat->Prop} {a:V2} {b:Nat->Prop} (h:Own ⟨a,b,λ_=>False⟩ w M F) {i k:Nat} (e:F i k):a.heap.size<=k:=by
 rcases(h.rng i k e).1 with h|h
 .exact h
 .exact h.elim
theorem St.call {w w':V2} {v C:V6 bF} {F:Nat->Nat->Prop} (B:HE c.O c.w0 w) (q:Own c w M F) (H:∀f∈L,f.p w (HB c F))
  (t:St ⟨w,HB c F,λ_=>False⟩ v C w'):St c (v++M) (C++L) w':=by
 have⟨o,G,a,y⟩:=t;have o:=o.ext;have E:=o.block;refine⟨B.trans o,ajf v.length G F,⟨?_,?_,?_⟩,λf hf=>?_⟩
 .intro i m x;by_cases e:i<v.length
  .rw[zAe e]at x;exact bF.same (a.res i m x) (λk b=>.inl ⟨e,b⟩) (λ_ _ _=>rfl)
  .rw[zA9 V7]at x;exact bF.same (q.res _ m x) (λk b=>.inr ⟨V7,b⟩) (λk _ z=>E k z)
 .rintro i k (⟨_,b⟩|⟨_,b⟩)
  .exact⟨.inl (zAz B.size (a.new b)),(a.rng i k b).2⟩
  .exact⟨(q.rng _ k b).1,zAw (q.rng _ k b).2 o.size⟩
 .rintro i j k (⟨e,r⟩|⟨e,r⟩) (⟨I,s⟩|⟨I,s⟩)
  .exact a.dis i j k r s
  .have:=a.new r;have:=(q.rng _ k s).2;simp only at *;omega
  .have:=a.new s;have:=(q.rng _ k r).2;simp only at *;omega
  .have:=q.dis _ _ k r s;omega
 .rcases zAx.1 hf with hf|hf
  .refine bF.same (y f hf) (λk b=>?_) (λ_ _ _=>rfl);have⟨u,A⟩:=b;have l:HB c F k\/w.heap.size<=k:=by
    rcases u with h|h|h
    .exact .inl h
    .exact .inr h
    .exact h.elim
   refine⟨?_,?_⟩
   .rcases l with h|h
    .exact h.1
    .exact .inr (.inl (zAz B.size h))
   .rintro i (⟨_,e⟩|⟨_,e⟩)
    .exact A i e
    .rcases l with h|h
     .exact h.2 _ e
     .have:=(q.rng _ k e).2;omega
  .refine f.mono (H f hf) λk b z=>⟨⟨b.1,?_⟩,E k z⟩
   rintro i (⟨_,e⟩|⟨_,e⟩)
   .have:=a.new e;omega
   .exact b.2 _ e
theorem evs {e:V6 V3} {b:V6 V0} {a:Act} (s:Kl n σ a) (h:e.map (ev σ)=b.map some):e.map a.eval=b:=by
 induction e generalizing b with
 |nil=>cases b<;>simp_all
 |cons x e f=>
  cases b with
  |nil=>simp at h
  |cons v b=>simp at h;simp[s.eval h.1,f h.2]
def aX (P:Program) (f:FuncId):Prop:=∀args w,(callFunc f args).run P w = .ok (.enter f args) w
def Rc {A:Type} (c:zW) (a:A->V0) (f b:A->V6 bF->V6 bF) (e:Ending) (w:V2):Prop:=∃x:A,e = .returned (a x)/\St c (f x []) (b x []) w
def BM:Nat->V6 V0->Fr
 |_,[]=>[]
 |k,v::vs=>(k,v)::BM (k+1) vs
theorem IS (a:V6 V0):∀k t v,lk (BM k a) t=some v->k<=t/\a[t - k]?=some v:=by
 induction a with
 |nil=>intro k t v h;simp[BM,lk]at h
 | cons u a ih =>
  intro k t v h;simp only[BM,lk]at h;by_cases e:t=k
  .subst e;simp at h;subst h;simp
  .rw[qT e]at h;have⟨f,b⟩:=ih (k+1) t v h;refine⟨V7,?_⟩
   have:t - k=(t - (k+1))+1:=V7
   rw[this,List.getElem?_cons_succ];exact b
theorem aZ.of {A:Type} {b:A->V0} {u s:A->V6 bF->V6 bF} {f:FuncId} {e:Func} {a:Code} {vs:V6 V0} {m:Nat}
  (p:P.funcs[f]?=some e) (y:e.body=some a) (C:e.ntmps=m) (B:Nat.ble vs.length m=true)
  (h:∀c:zW,J c ⟨m,[]⟩ (BM 0 vs) [] L (a.wpr none P (kE P e (Rc c b u s)))):aZ P f vs.toArray L b u s:=λF w x=>by
 have q:vs.length<=m:=by simpa using B
 refine zA p y (h ⟨F,w,λ_=>False⟩ _ _ ⟨rfl,by simp[C,q],?_⟩ ⟨HE.refl _,λ_ _=>False,⟨?_,?_,?_⟩,?_⟩)
 .intro t v E;have⟨_,l⟩:=IS vs 0 t v E;rw[Nat.sub_zero]at l;have r:t<vs.length:=by
   rcases zAy t vs.length with o|o
   .exact o
   .rw[zAs o]at l;cases l
  rw[zB6 (by simpa using r)];simpa using l
 .intro i m h;simp at h
 .intro i k h;exact h.elim
 .intro i j k h;exact h.elim
 .intro f p;exact bF.same (x f p) (λk z=>⟨.inl z,λ_ h=>h⟩) (λ_ _ _=>rfl)
theorem afN {A:Type} {b:A->V0} {j i:A->V6 bF->V6 bF} {k:Func} (x:A) (e:Exit) (o:e = .ret\/e = .normal)
  (p:∀a w,Kl n σ a->St c M L w->(results k a.tmps).run P w = .ok (b x) w) (m:aW M (j x [])) (l:∀f∈i x [],f∈L) (h:n.ds=[]:=by rfl):
  J c n σ M L (kE P k (Rc c b j i) e):=λa w s t=>
 body_end o (s.defers.trans h) (p a w s t) ⟨x,rfl,t.weak m l⟩
theorem abD [eB P] {T h:V9} {o:Nat} {z:V0} {e:TypeDesc} {w:V2} {b:Nat} {a:V6 V0} {F:Nat->Prop} (i:(bU b a h).p w F)
  (f:eB.tab P T=some ⟨e,a.length,o,z⟩) (k:Bh e=true):(loadVar T ⟨b,0,none⟩).run P w = .ok (.agg a.toArray) w:=by
 have l:=run_loadCells_list (P:=P) w ⟨b,0,none⟩ a (λj v m=>by rw[gQ,zB3];exact bU.cell i m);simp[loadVar,(eB.ok f).run_agg w,k,(eB.ok f).run_size w,l]
end
end Go.Sx
namespace Go.Sx
open Go.Proofs
theorem ahr {P:Program} {T:Nat} {i:TypeInfo} (h:P.types[T]?=some i):P.info? T=some i:=by
 unfold Tables.info?;rw[if_pos (zA8.1 h).1];exact h
noncomputable def zOf (i:TypeInfo):V0:=i.zero.getD (.tuple #[])
def dU (d:TypeDesc) (s b:Nat) (i:TypeInfo):Ty:=⟨d,s,b,zOf i⟩
def y2:=dU t2.desc 1 8 t2
def y3:=dU t2.desc 1 8 t3
def y4:=dU t4.desc 1 1 t4
def y5:=dU t5.desc 1 1 t5
def y6:=dU t5.desc 1 1 t6
def y7:=dU t7.desc 4 24 t7
def y8:=dU t7.desc 4 24 t8
def y9:=dU t9.desc 1 16 t9
def y10:=dU t9.desc 1 16 t10
def y11:=dU t9.desc 1 16 t11
def y12:=dU t12.desc 1 8 t12
def y13:=dU t13.desc 2 24 t13
def y14:=dU t13.desc 2 24 t14
def y15:=dU t15.desc 1 8 t15
def y16:=dU t16.desc 1 8 t16
def y17:=dU t17.desc 1 8 t17
def y18:=dU t18.desc 1 8 t18
def y19:=dU t18.desc 1 8 t19
def y20:=dU t20.desc 1 16 t20
def y21:=dU t21.desc 1 4 t21
def y22:=dU t22.desc 1 24 t22
def y23:=dU t23.desc 1 24 t23
def y24:=dU t24.desc 3 64 t24
def y25:=dU t24.desc 3 64 t25
def y26:=dU t26.desc 1 24 t26
def y27:=dU t27.desc 1 24 t27
def y28:=dU t28.desc 2 48 t28
def y29:=dU t28.desc 2 48 t29
def y30:=dU t30.desc 1 24 t30
def y31:=dU t31.desc 1 8 t31
def y32:=dU t32.desc 1 8 t32
def y33:=dU t33.desc 1 8 t33
def y34:=dU t34.desc 1 24 t34
def y35:=dU t2.desc 1 8 t35
def y38:=dU t38.desc 1 24 t38
def y39:=dU t39.desc 1 24 t39
def y40:=dU t40.desc 3 64 t40
def y41:=dU t40.desc 3 64 t41
def y44:=dU t44.desc 1 8 t44
def y46:=dU t46.desc 1 4 t46
def y50:=dU t50.desc 2 32 t50
def y51:=dU t50.desc 2 32 t51
def y56:=dU t56.desc 1 8 t56
def y62:=dU t62.desc 1 24 t62
def y63:=dU t63.desc 5 40 t63
def y64:=dU t63.desc 5 40 t64
def y65:=dU t65.desc 8 112 t65
def y66:=dU t65.desc 8 112 t66
def y70:=dU t70.desc 2 48 t70
def y71:=dU t70.desc 2 48 t71
def y72:=dU t72.desc 1 8 t72
def y75:=dU t75.desc 1 8 t75
def y76:=dU t76.desc 1 8 t76
def y78:=dU t78.desc 1 24 t78
def y79:=dU t79.desc 1 24 t79
def y80:=dU t80.desc 8 144 t80
def y81:=dU t80.desc 8 144 t81
def y82:=dU t82.desc 1 8 t82
def y84:=dU t84.desc 2 16 t84
def y85:=dU t84.desc 2 16 t85
def y86:=dU t86.desc 1 8 t86
def y88:=dU t88.desc 1 8 t88
def y91:=dU t12.desc 1 8 t91
def y94:=dU t94.desc 1 8 t94
def y96:=dU t96.desc 1 8 t96
def y97:=dU t97.desc 6 56 t97
def y98:=dU t97.desc 6 56 t98
def alJ:=dU t100.desc 2 16 t100
def alK:=dU t103.desc 1 24 t103
def alL:=dU t106.desc 1 8 t106
def alM:=dU t107.desc 1 24 t107
def alN:=dU t108.desc 3 64 t108
def alO:=dU t108.desc 3 64 t109
def alP:=dU t110.desc 7 152 t110
def alQ:=dU t110.desc 7 152 t111
def alR:=dU t116.desc 1 8 t116
def alS:=dU t62.desc 1 24 t118
def alT:=dU t119.desc 1 8 t119
def alU:=dU t120.desc 5 56 t120
def alV:=dU t120.desc 5 56 t121
def alW:=dU t125.desc 2 16 t125
def alX:=dU t125.desc 2 16 t126
def alY:=dU t128.desc 1 8 t128
def alZ:=dU t129.desc 1 8 t129
def al_:=dU t131.desc 1 8 t131
def ama:=dU t133.desc 1 24 t133
def amb:=dU t135.desc 22 176 t135
def amc:=dU t137.desc 1 24 t137
def amd:=dU t138.desc 26 256 t138
def ame:=dU t138.desc 26 256 t139
def amf:=dU t141.desc 7 144 t141
def amg:=dU t141.desc 7 144 t142
def amh:=dU t143.desc 2 16 t143
def ami:=dU t143.desc 2 16 t144
def amj:=dU t147.desc 5 96 t147
def amk:=dU t147.desc 5 96 t148
def aml:=dU t152.desc 1 24 t152
def amm:=dU t154.desc 2 16 t154
def amn:=dU t154.desc 2 16 t155
def amo:=dU t156.desc 1 24 t156
def amq:=dU t161.desc 4 32 t161
def amr:=dU t161.desc 4 32 t162
def ams:=dU t165.desc 2 16 t165
def amt:=dU t165.desc 2 16 t166
def amu:=dU t180.desc 1 8 t180
def amv:=dU t182.desc 1 8 t182
def amw:=dU t186.desc 1 8 t186
def amx:=dU t194.desc 2 32 t194
def amy:=dU t194.desc 2 32 t195
def amz:=dU t197.desc 4 64 t197
def amA:=dU t197.desc 4 64 t198
def amB:=dU t200.desc 1 8 t200
def amC:=dU t202.desc 1 8 t202
def amD:=dU t203.desc 1 8 t203
def amE:=dU t206.desc 1 8 t206
def amF:=dU t211.desc 1 8 t211
def amG:=dU t213.desc 1 8 t213
def amH:=dU t214.desc 1 8 t214
def amI:=dU t224.desc 1 8 t224
def amJ:=dU t224.desc 1 8 t225
def amK:=dU t227.desc 3 24 t227
def amL:=dU t227.desc 3 24 t228
def amM:=dU t234.desc 1 8 t234
def amN:=dU t236.desc 256 256 t236
def amO:=dU t237.desc 1 8 t237
def amP:=dU t244.desc 2 48 t244
def amQ:=dU t244.desc 2 48 t245
def amR:=dU t248.desc 1 8 t248
def amS:=dU t253.desc 24 192 t253
def amT:=dU t254.desc 1 24 t254
def amU:=dU t256.desc 1 8 t256
def amV:=dU t257.desc 3 24 t257
def amW:=dU t259.desc 32 32 t259
def amX:=dU t269.desc 1 24 t269
def amY:=dU t270.desc 4 40 t270
def amZ:=dU t270.desc 4 40 t271
def am_:=dU t272.desc 0 0 t272
def ana:=dU t273.desc 0 0 t273
def anb:=dU t273.desc 0 0 t274
def anc:=dU t5.desc 1 1 t275
def ane:=dU t5.desc 1 1 t276
def anf:=dU t277.desc 1 8 t277
def ang:=dU t278.desc 1 8 t278
def anh:=dU t21.desc 1 4 t279
def ani:=dU t21.desc 1 4 t280
def anj:=dU t281.desc 11 48 t281
def ank:=dU t281.desc 11 48 t282
noncomputable def tL {a:Type} (T i:Nat) (t:a):V1 a:=bif Nat.beq T i then some t else none
noncomputable def tN {c:Type} (T i:Nat) (a b:V1 c):V1 c:=bif Nat.blt T i then a else b
def CV (T:Nat):V1 Ty:=(tN T 110 (tN T 40 (tN T 20 (tN T 11 (tN T 6 (tN T 4 (tN T 3 (tL T 2 y2) (tL T 3 y3)) (tN T 5 (tL T 4 y4) (tL T 5 y5))) (tN T 8 (tN T 7 (tL T 6 y6) (tL T 7 y7)) (tN T 9 (tL T 8 y8) (tN T 10 (tL T 9 y9) (tL T 10 y10))))) (tN T 15 (tN T 13 (tN T 12 (tL T 11 y11) (tL T 12 y12)) (tN T 14 (tL T 13 y13) (tL T 14 y14))) (tN T 17 (tN T 16 (tL T 15 y15) (tL T 16 y16)) (tN T 18 (tL T 17 y17) (tN T 19 (tL T 18 y18) (tL T 19 y19)))))) (tN T 29 (tN T 24 (tN T 22 (tN T 21 (tL T 20 y20) (tL T 21 y21)) (tN T 23 (tL T 22 y22) (tL T 23 y23))) (tN T 26 (tN T 25 (tL T 24 y24) (tL T 25 y25)) (tN T 27 (tL T 26 y26) (tN T 28 (tL T 27 y27) (tL T 28 y28))))) (tN T 33 (tN T 31 (tN T 30 (tL T 29 y29) (tL T 30 y30)) (tN T 32 (tL T 31 y31) (tL T 32 y32))) (tN T 35 (tN T 34 (tL T 33 y33) (tL T 34 y34)) (tN T 38 (tL T 35 y35) (tN T 39 (tL T 38 y38) (tL T 39 y39))))))) (tN T 79 (tN T 64 (tN T 50 (tN T 44 (tN T 41 (tL T 40 y40) (tL T 41 y41)) (tN T 46 (tL T 44 y44) (tL T 46 y46))) (tN T 56 (tN T 51 (tL T 50 y50) (tL T 51 y51)) (tN T 62 (tL T 56 y56) (tN T 63 (tL T 62 y62) (tL T 63 y63))))) (tN T 71 (tN T 66 (tN T 65 (tL T 64 y64) (tL T 65 y65)) (tN T 70 (tL T 66 y66) (tL T 70 y70))) (tN T 75 (tN T 72 (tL T 71 y71) (tL T 72 y72)) (tN T 76 (tL T 75 y75) (tN T 78 (tL T 76 y76) (tL T 78 y78)))))) (tN T 94 (tN T 84 (tN T 81 (tN T 80 (tL T 79 y79) (tL T 80 y80)) (tN T 82 (tL T 81 y81) (tL T 82 y82))) (tN T 86 (tN T 85 (tL T 84 y84) (tL T 85 y85)) (tN T 88 (tL T 86 y86) (tN T 91 (tL T 88 y88) (tL T 91 y91))))) (tN T 103 (tN T 97 (tN T 96 (tL T 94 y94) (tL T 96 y96)) (tN T 98 (tL T 97 y97) (tN T 100 (tL T 98 y98) (tL T 100 alJ)))) (tN T 107 (tN T 106 (tL T 103 alK) (tL T 106 alL)) (tN T 108 (tL T 107 alM) (tN T 109 (tL T 108 alN) (tL T 109 alO)))))))) (tN T 198 (tN T 142 (tN T 128 (tN T 119 (tN T 116 (tN T 111 (tL T 110 alP) (tL T 111 alQ)) (tN T 118 (tL T 116 alR) (tL T 118 alS))) (tN T 121 (tN T 120 (tL T 119 alT) (tL T 120 alU)) (tN T 125 (tL T 121 alV) (tN T 126 (tL T 125 alW) (tL T 126 alX))))) (tN T 135 (tN T 131 (tN T 129 (tL T 128 alY) (tL T 129 alZ)) (tN T 133 (tL T 131 al_) (tL T 133 ama))) (tN T 138 (tN T 137 (tL T 135 amb) (tL T 137 amc)) (tN T 139 (tL T 138 amd) (tN T 141 (tL T 139 ame) (tL T 141 amf)))))) (tN T 161 (tN T 148 (tN T 144 (tN T 143 (tL T 142 amg) (tL T 143 amh)) (tN T 147 (tL T 144 ami) (tL T 147 amj))) (tN T 154 (tN T 152 (tL T 148 amk) (tL T 152 aml)) (tN T 155 (tL T 154 amm) (tN T 156 (tL T 155 amn) (tL T 156 amo))))) (tN T 182 (tN T 165 (tN T 162 (tL T 161 amq) (tL T 162 amr)) (tN T 166 (tL T 165 ams) (tN T 180 (tL T 166 amt) (tL T 180 amu)))) (tN T 194 (tN T 186 (tL T 182 amv) (tL T 186 amw)) (tN T 195 (tL T 194 amx) (tN T 197 (tL T 195 amy) (tL T 197 amz))))))) (tN T 253 (tN T 225 (tN T 206 (tN T 202 (tN T 200 (tL T 198 amA) (tL T 200 amB)) (tN T 203 (tL T 202 amC) (tL T 203 amD))) (tN T 213 (tN T 211 (tL T 206 amE) (tL T 211 amF)) (tN T 214 (tL T 213 amG) (tN T 224 (tL T 214 amH) (tL T 224 amI))))) (tN T 236 (tN T 228 (tN T 227 (tL T 225 amJ) (tL T 227 amK)) (tN T 234 (tL T 228 amL) (tL T 234 amM))) (tN T 244 (tN T 237 (tL T 236 amN) (tL T 237 amO)) (tN T 245 (tL T 244 amP) (tN T 248 (tL T 245 amQ) (tL T 248 amR)))))) (tN T 273 (tN T 259 (tN T 256 (tN T 254 (tL T 253 amS) (tL T 254 amT)) (tN T 257 (tL T 256 amU) (tL T 257 amV))) (tN T 270 (tN T 269 (tL T 259 amW) (tL T 269 amX)) (tN T 271 (tL T 270 amY) (tN T 272 (tL T 271 amZ) (tL T 272 am_))))) (tN T 278 (tN T 275 (tN T 274 (tL T 273 ana) (tL T 274 anb)) (tN T 276 (tL T 275 anc) (tN T 277 (tL T 276 ane) (tL T 277 anf)))) (tN T 280 (tN T 279 (tL T 278 ang) (tL T 279 anh)) (tN T 281 (tL T 280 ani) (tN T 282 (tL T 281 anj) (tL T 282 ank)))))))))
theorem kK {T i s b:Nat} {u:TypeDesc} {I:TypeInfo} {d:Ty} (h:prog.underlying i=some u) (f:prog.types[i]?=some I) (g:I.size=s:=by rfl) (c:I.bytes=b:=by rfl) (j:I.zero=some (zOf I):=by rfl):tL T i (dU u s b I)=some d->xG prog T d:=by
 intro e;unfold tL at e;cases a:Nat.beq T i with
 |true=>rw[a]at e;cases e;rw[zA4 a];exact⟨h,I,ahr f,g,c,j⟩
 |false=>rw[a]at e;cases e
theorem kM {T i:Nat} {x y:V1 Ty} {d:Ty} (a:x=some d->xG prog T d) (b:y=some d->xG prog T d):tN T i x y=some d->xG prog T d:=by
 unfold tN;cases Nat.blt T i
 .exact b
 .exact a
theorem Uw {T:Nat} {d:Ty}:CV T=some d->xG prog T d:=
 (kM (kM (kM (kM (kM (kM (kM (kK underlying2 type2) (kK underlying3 type3)) (kM (kK underlying4 type4) (kK underlying5 type5))) (kM (kM (kK underlying6 type6) (kK underlying7 type7)) (kM (kK underlying8 type8) (kM (kK underlying9 type9) (kK underlying10 type10))))) (kM (kM (kM (kK underlying11 type11) (kK underlying12 type12)) (kM (kK underlying13 type13) (kK underlying14 type14))) (kM (kM (kK underlying15 type15) (kK underlying16 type16)) (kM (kK underlying17 type17) (kM (kK underlying18 type18) (kK underlying19 type19)))))) (kM (kM (kM (kM (kK underlying20 type20) (kK underlying21 type21)) (kM (kK underlying22 type22) (kK underlying23 type23))) (kM (kM (kK underlying24 type24) (kK underlying25 type25)) (kM (kK underlying26 type26) (kM (kK underlying27 type27) (kK underlying28 type28))))) (kM (kM (kM (kK underlying29 type29) (kK underlying30 type30)) (kM (kK underlying31 type31) (kK underlying32 type32))) (kM (kM (kK underlying33 type33) (kK underlying34 type34)) (kM (kK underlying35 type35) (kM (kK underlying38 type38) (kK underlying39 type39))))))) (kM (kM (kM (kM (kM (kK underlying40 type40) (kK underlying41 type41)) (kM (kK underlying44 type44) (kK underlying46 type46))) (kM (kM (kK underlying50 type50) (kK underlying51 type51)) (kM (kK underlying56 type56) (kM (kK underlying62 type62) (kK underlying63 type63))))) (kM (kM (kM (kK underlying64 type64) (kK underlying65 type65)) (kM (kK underlying66 type66) (kK underlying70 type70))) (kM (kM (kK underlying71 type71) (kK underlying72 type72)) (kM (kK underlying75 type75) (kM (kK underlying76 type76) (kK underlying78 type78)))))) (kM (kM (kM (kM (kK underlying79 type79) (kK underlying80 type80)) (kM (kK underlying81 type81) (kK underlying82 type82))) (kM (kM (kK underlying84 type84) (kK underlying85 type85)) (kM (kK underlying86 type86) (kM (kK underlying88 type88) (kK underlying91 type91))))) (kM (kM (kM (kK underlying94 type94) (kK underlying96 type96)) (kM (kK underlying97 type97) (kM (kK underlying98 type98) (kK underlying100 type100)))) (kM (kM (kK underlying103 type103) (kK underlying106 type106)) (kM (kK underlying107 type107) (kM (kK underlying108 type108) (kK underlying109 type109)))))))) (kM (kM (kM (kM (kM (kM (kK underlying110 type110) (kK underlying111 type111)) (kM (kK underlying116 type116) (kK underlying118 type118))) (kM (kM (kK underlying119 type119) (kK underlying120 type120)) (kM (kK underlying121 type121) (kM (kK underlying125 type125) (kK underlying126 type126))))) (kM (kM (kM (kK underlying128 type128) (kK underlying129 type129)) (kM (kK underlying131 type131) (kK underlying133 type133))) (kM (kM (kK underlying135 type135) (kK underlying137 type137)) (kM (kK underlying138 type138) (kM (kK underlying139 type139) (kK underlying141 type141)))))) (kM (kM (kM (kM (kK underlying142 type142) (kK underlying143 type143)) (kM (kK underlying144 type144) (kK underlying147 type147))) (kM (kM (kK underlying148 type148) (kK underlying152 type152)) (kM (kK underlying154 type154) (kM (kK underlying155 type155) (kK underlying156 type156))))) (kM (kM (kM (kK underlying161 type161) (kK underlying162 type162)) (kM (kK underlying165 type165) (kM (kK underlying166 type166) (kK underlying180 type180)))) (kM (kM (kK underlying182 type182) (kK underlying186 type186)) (kM (kK underlying194 type194) (kM (kK underlying195 type195) (kK underlying197 type197))))))) (kM (kM (kM (kM (kM (kK underlying198 type198) (kK underlying200 type200)) (kM (kK underlying202 type202) (kK underlying203 type203))) (kM (kM (kK underlying206 type206) (kK underlying211 type211)) (kM (kK underlying213 type213) (kM (kK underlying214 type214) (kK underlying224 type224))))) (kM (kM (kM (kK underlying225 type225) (kK underlying227 type227)) (kM (kK underlying228 type228) (kK underlying234 type234))) (kM (kM (kK underlying236 type236) (kK underlying237 type237)) (kM (kK underlying244 type244) (kM (kK underlying245 type245) (kK underlying248 type248)))))) (kM (kM (kM (kM (kK underlying253 type253) (kK underlying254 type254)) (kM (kK underlying256 type256) (kK underlying257 type257))) (kM (kM (kK underlying259 type259) (kK underlying269 type269)) (kM (kK underlying270 type270) (kM (kK underlying271 type271) (kK underlying272 type272))))) (kM (kM (kM (kK underlying273 type273) (kK underlying274 type274)) (kM (kK underlying275 type275) (kM (kK underlying276 type276) (kK underlying277 type277)))) (kM (kM (kK underlying278 type278) (kK underlying279 type279)) (kM (kK underlying280 type280) (kM (kK underlying281 type281) (kK underlying282 type282)))))))))

noncomputable instance:eB prog:=⟨CV,Uw⟩
end Go.Sx
namespace Go.Sx
open Go.RowKit
def NP:iN (Int×Int):=(iN.int .i64).pair (iN.int .i64)
section
variable {P:Program} {ops:Array V5} {Q:Exit->Act->V2->Prop}
def Vf:Exit->Act->V2->Prop:=λ_ _ _=>False
theorem Xy:¬LetsOut Vf:=fun⟨_,_,h⟩=>h
theorem OM {o:V5} {a:Act} {w:V2} {K:Act->V2->Prop} (h:o.wp P a w K Vf):o.wp P a w K Q:=by
 unfold Oper.wp at *
 generalize (execOp a.eval o).run P w=r at *
 cases r with
 | ok n c =>
  cases n<;>simp only[Oper.upon]at h ⊢ <;> first
   |exact h
   |exact Calls.mono h (λe d b=>by cases e<;>first|exact b|exact absurd b Xy|exact b.elim)
 |halt x c=>cases x<;>simp only[Oper.upon]at h ⊢ <;> first|exact h|exact h.elim
def ZF (a b:Act) (d:V1 Tmp):Prop:=∃u c,b=({a with defers:=c}:Act).put d u
theorem abq {o:V5} {a:Act} {w:V2} {K:Act->V2->Prop} (h:o.wp P a w K Vf):o.wp P a w (λj g=>K j g/\ZF a j o.dst) Vf:=by
 unfold Oper.wp at *
 generalize (execOp a.eval o).run P w=r at *
 cases r with
 | ok n g =>
  cases n<;>simp only[Oper.upon]at h ⊢
  case value v=>exact⟨h,v,a.defers,rfl⟩
  case skip=>exact⟨h,undef,a.defers,rfl⟩
  case defer d=>exact⟨h,undef,d::a.defers,rfl⟩
  case enter f args=>
   refine Calls.mono h λe i b=>?_;cases e with
   |returned v=>exact⟨b,v,a.defers,rfl⟩
   |panicked c=>exact b
   |outgrown=>exact b
  case row row args=>exact Rows.mono h λv i b=>⟨b,v,a.defers,rfl⟩
 |halt x g=>cases x<;>simp only[Oper.upon]at h ⊢ <;> exact h
theorem Ud {o:V5} {a:Act} {w:V2} {K:Act->V2->Prop} (h:o.wp P a w K Vf):∃j g,K j g:=by
 unfold Oper.wp at *
 generalize (execOp a.eval o).run P w=r at *
 cases r with
 | ok n g =>
  cases n<;>simp only[Oper.upon]at h
  case value v=>exact⟨_,_,h⟩
  case skip=>exact⟨_,_,h⟩
  case defer d=>exact⟨_,_,h⟩
  case enter f args=>
   have⟨e,i,k,b,_⟩:=h [];cases e with
   |returned v=>exact⟨_,_,b⟩
   |panicked c=>exact b.elim
   |outgrown=>exact absurd b Xy
  case row row args=>
   have⟨v,i,b,_⟩:=h default [];exact⟨_,_,b⟩
 |halt x g=>cases x<;>simp only[Oper.upon]at h<;>exact h.elim
theorem XE {o:V5} {a:Act} {w:V2} {K:Act->V2->Prop} {d:V1 Tmp} {v:V0} (s:∀p b,o.op ≠ .select p b) (q:∀t,d=some t->t∉o.looksAt ops) (g:∀t,d=some t->o.dst≠some t)
  (h:o.wp P a w K Vf):o.wp P (a.put d v) w (λm j=>∃l,K l j/\m=l.put d v) Vf:=by
 unfold Oper.wp at *
 rw[execOp_put (ops:=ops) o s a d v q];have y:(a.put d v).defers=a.defers:=by cases d<;>rfl
 generalize (execOp a.eval o).run P w=r at *
 cases r with
 | ok n j =>
  cases n<;>simp only[Oper.upon]at h ⊢
  case value u=>exact⟨_,h,Act.put_comm a v u g⟩
  case skip=>exact⟨_,h,Act.put_comm a v undef g⟩
  case defer e=>exact⟨_,h,by rw[Act.put_defers,Act.put_comm _ v undef g]⟩
  case enter f args=>
   refine Calls.mono h λe k i=>?_;cases e with
   |returned u=>exact⟨_,i,Act.put_comm a v u g⟩
   |panicked c=>exact i
   |outgrown=>exact i
  case row row args=>exact Rows.mono h λu k i=>⟨_,i,Act.put_comm a v u g⟩
 |halt x j=>cases x<;>simp only[Oper.upon]at h ⊢ <;> exact h
theorem pG {o:V5} {a:Act} {w:V2} {K b:Act->V2->Prop} (c:∀a w,K a w->b a w) (h:o.wp P a w K Vf):o.wp P a w b Vf:=Oper.wp_mono c h
def Td (P:Program) (A:Nat->Nat->V4) (i:Nat) (o:V5) (a:Act) (w:V2) (H:V6 (Nat×V2)) (v:V0) (B:V2->Prop):Prop:=
 B w/\(∀l∈H,A i l.1=false->B l.2)/\∀b,B b->(execOp a.eval o).run P b = .ok (.value v) b
def RW (P:Program) (ops:Array V5) (Q:Exit->Act->V2->Prop) (A:Nat->Nat->V4) (c:Nat->V4) (d:Nat):V6 Nat->Act->V2->V6 (Nat×V2)->V6 (Nat×(V2->Prop))->Prop
 | [],a,w,_,_=>Q .normal a w
 | i :: rest, a, w, H, Bs =>
  match ops[i]? with
  |none=>False
  | some o =>
   if Region.wanted o (yielded ops a.tmps)then
    (d<=i/\(o.wp P a w (λf e=>RW P ops Q A c d rest f e H Bs) Q\/o.rnd P a w (λf e=>RW P ops Q A c d rest f e H Bs)))\/
    (i<d/\c i=false/\∃v B,Td P A i o a w H v B/\RW P ops Q A c d rest (a.put o.dst v) w H ((i,B)::Bs))\/
    (i<d/\c i=true/\o.wp P a w (λf e=>(∀b∈Bs,A i b.1=false->b.2 e)/\RW P ops Q A c d rest f e ((i,w)::H) Bs) Vf)
   else RW P ops Q A c d rest (a.put o.dst undef) w H Bs
variable {A:Nat->Nat->V4} {loud:Nat->V4} {k0:Nat}
theorem acy:∀(L:V6 Nat) (a:Act) (w:V2) (H:V6 (Nat×V2)) (d c:V6 (Nat×(V2->Prop))),(∀b∈c,b∈d)->RW P ops Q A loud k0 L a w H d->RW P ops Q A loud k0 L a w H c:=by
 intro L
 induction L with
 |nil=>intro a w H d c _ h;exact h
 | cons i L ih =>
  intro a w H d c e h;simp only[RW]at h ⊢;cases l:ops[i]? with
  |none=>simp[l]at h
  | some o =>
   simp only[l]at h ⊢;split
   .rename_i k;rw[if_pos k]at h;rcases h with⟨f,h2⟩|⟨f,h2,v,B,j,m⟩|⟨f,h2,j⟩
    .refine .inl ⟨f,?_⟩;rcases h2 with h2|h2
     .exact .inl (Oper.wp_mono (λa w h=>ih a w H d c e h) h2)
     .exact .inr (Oper.rnd_mono (λa w h=>ih a w H d c e h) h2)
    .exact .inr (.inl ⟨f,h2,v,B,j,ih _ _ _ _ _ (λb g=>by
      rcases zAi.1 g with rfl|g
      .exact zAd
      .exact zAk _ (e b g)) m⟩)
    .exact .inr (.inr ⟨f,h2,pG (λa w h=>⟨λb g=>h.1 b (e b g),ih a w _ d c e h.2⟩) j⟩)
   .rename_i k;rw[if_neg k]at h;exact ih _ _ _ _ _ e h
structure NZ (ops:Array Oper) (A:Nat->Nat->Bool) (loud:Nat->Bool) (x i:Nat):Prop where
 na:A i x=false
 nb:A x i=false
 apart:∀ox oi,ops[x]?=some ox->ops[i]?=some oi->ox.apart ops oi=true
 one:loud x=false\/loud i=false
theorem QA {a c:Act} {o:V5} {d:V1 Tmp} (i:∀f b,o.op ≠ .select f b) (h:∀t,d=some t->t∉o.looksAt ops) (g:ZF a c d):execOp c.eval o=execOp a.eval o/\Region.wanted o (yielded ops c.tmps)=Region.wanted o (yielded ops a.tmps):=by
 obtain⟨u,e,rfl⟩:=g;refine⟨(execOp_put (ops:=ops) o i {a with defers:=e} d u h).trans Z,wanted_put o {a with defers:=e} d u h⟩
theorem Td.of_exec {i:Nat} {o:V5} {a b:Act} {w:V2} {H:V6 (Nat×V2)} {v:V0} {B:V2->Prop} (h:Td P A i o a w H v B) (e:execOp b.eval o=execOp a.eval o):Td P A i o b w H v B:=by
 have⟨c,d,f⟩:=h;exact⟨c,d,λj g=>by rw[e];exact f j g⟩
theorem JP (t:∀(i:Nat) (o:V5),ops[i]?=some o->∀cs b,o.op ≠ .select cs b) {i:Nat} {o:V5} {Y:V6 Nat} (hi:ops[i]?=some o) (ad:i<k0) (aa:loud i=false):
  ∀(r:V6 Nat) (a:Act) (w:V2) (H:V6 (Nat×V2)) (G:V6 (Nat×(V2->Prop))),(∀x∈r,NZ ops A loud x i/\x<k0)->RW P ops Q A loud k0 (r++i::Y) a w H G->
   (Region.wanted o (yielded ops a.tmps)=false/\RW P ops Q A loud k0 (r++Y) (a.put o.dst undef) w H G)\/
   (Region.wanted o (yielded ops a.tmps)=true/\∃v B,Td P A i o a w H v B/\RW P ops Q A loud k0 (r++Y) (a.put o.dst v) w H G):=by
 intro r
 induction r with
 | nil =>
  intro a w H G _ h;simp only[List.nil_append,RW,hi]at h;by_cases e:Region.wanted o (yielded ops a.tmps)=true
  .rw[if_pos e]at h;rcases h with⟨h,_⟩|⟨_,_,v,B,hv,h⟩|⟨_,h,_⟩
   .omega
   .exact .inr ⟨e,v,B,hv,acy _ _ _ _ _ _ (λb hb=>zAk _ hb) h⟩
   .rw[aa]at h;cases h
  .rw[if_neg e]at h;exact .inl ⟨by simpa using e,h⟩
 | cons x r ih =>
  intro a w H G hx h;have⟨D,q⟩:=hx x zAd;have k:∀y∈r,NZ ops A loud y i/\y<k0:=λy hy=>hx y (zAk _ hy);simp only[List.cons_append,RW]at h ⊢;cases n:ops[x]? with
  |none=>simp[n]at h
  | some ox =>
   simp only[n]at h ⊢;have⟨p1,U,W⟩:=Oper.apart_spec (D.apart ox o n hi);have S:=t i o hi;have C:=t x ox n;have q2:∀(d:Tmp),o.dst=some d->ox.dst≠some d:=λd hd O=>U d O hd;have ex:∀(b:Act) u,execOp (b.put o.dst u).eval ox=execOp b.eval ox:=λb u=>execOp_put (ops:=ops) ox C b o.dst u W;have F:∀(b:Act) u,Region.wanted ox (yielded ops (b.put o.dst u).tmps)=Region.wanted ox (yielded ops b.tmps):=λb u=>wanted_put ox b o.dst u W;have ei:∀(b:Act) u,execOp (b.put ox.dst u).eval o=execOp b.eval o:=λb u=>execOp_put (ops:=ops) o S b ox.dst u p1;have X:∀(b:Act) u,Region.wanted o (yielded ops (b.put ox.dst u).tmps)=Region.wanted o (yielded ops b.tmps):=λb u=>wanted_put o b ox.dst u p1;by_cases e:Region.wanted ox (yielded ops a.tmps)=true
   .rw[if_pos e]at h;rcases h with⟨h,_⟩|⟨_,f,V,Bx,T,h⟩|⟨_,f,h⟩
    .omega
    .rcases ih _ w H _ k h with⟨c,z⟩|⟨c,v,B,z,h3⟩
     .rw[X]at c;refine .inl ⟨c,?_⟩;rw[if_pos (by rw[F];exact e)];exact .inr (.inl ⟨q,f,V,Bx,T.of_exec (ex a undef),by rw[<-Act.put_comm a V undef U];exact z⟩)
     .rw[X]at c;refine .inr ⟨c,v,B,z.of_exec (ei a V).symm,?_⟩;rw[if_pos (by rw[F];exact e)];exact .inr (.inl ⟨q,f,V,Bx,T.of_exec (ex a v),by rw[<-Act.put_comm a V v U];exact h3⟩)
    .have h':=abq h;have⟨a1,w1,⟨⟨_,ab⟩,m⟩⟩:=Ud h';have E:=λ{a':Act} (s:ZF a a' ox.dst)=>QA (ops:=ops) S p1 s;rcases ih a1 w1 _ _ k ab with⟨c,_⟩|⟨c,v,B,⟨ac,J,L⟩,_⟩
     .have j:Region.wanted o (yielded ops a.tmps)=false:=by rw[<-(E m).2];exact c
      refine .inl ⟨j,?_⟩;rw[if_pos (by rw[F];exact e)];refine .inr (.inr ⟨q,f,?_⟩);refine pG ?_ (XE (ops:=ops) (d:=o.dst) (v:=undef) C W q2 h');rintro a2 w2 ⟨a3,⟨⟨O,hr⟩,s⟩,rfl⟩;refine⟨O,?_⟩
      rcases ih a3 w2 _ _ k hr with⟨_,h5⟩|⟨I,_⟩
      .exact h5
      .rw[(E s).2,j]at I;cases I
     .have j:Region.wanted o (yielded ops a.tmps)=true:=by rw[<-(E m).2];exact c
      have N:B w:=J (x,w) zAd D.na;have R:(execOp a.eval o).run P w = .ok (.value v) w:=by rw[<-(E m).1];exact L w N
      refine .inr ⟨j,v,B,⟨N,λl s=>J l (zAk _ s),λw' p=>by rw[<-(E m).1];exact L w' p⟩,?_⟩;rw[if_pos (by rw[F];exact e)];refine .inr (.inr ⟨q,f,?_⟩);refine pG ?_ (XE (ops:=ops) (d:=o.dst) (v:=v) C W q2 h');rintro a2 w2 ⟨a3,⟨⟨O,hr⟩,s⟩,rfl⟩;refine⟨O,?_⟩
      rcases ih a3 w2 _ _ k hr with⟨I,_⟩|⟨_,v',B',⟨_,K,M⟩,h5⟩
      .rw[(E s).2,j]at I;cases I
      .have g:=M w (K (x,w) zAd D.na);rw[(E s).1,R]at g;cases g;exact h5
   .rw[if_neg e]at h;have p:Region.wanted ox (yielded ops a.tmps)=false:=by simpa using e
    rcases ih _ w H _ k h with⟨c,z⟩|⟨c,v,B,z,h3⟩
    .rw[X]at c;refine .inl ⟨c,?_⟩;rw[if_neg (by rw[F,p];simp),<-Act.put_comm a undef undef U];exact z
    .rw[X]at c;refine .inr ⟨c,v,B,z.of_exec (ei a undef).symm,?_⟩;rw[if_neg (by rw[F,p];simp),<-Act.put_comm a undef v U];exact h3
theorem KM (t:∀(i:Nat) (o:V5),ops[i]?=some o->∀cs b,o.op ≠ .select cs b) {i:Nat} {o:V5} {U:V6 Nat} (Y:ops[i]?=some o) (ac:i<k0) (K:loud i=true):
  ∀(q:V6 Nat) (a:Act) (w:V2) (H:V6 (Nat×V2)) (G:V6 (Nat×(V2->Prop))),(∀x∈q,NZ ops A loud x i/\x<k0)->RW P ops Q A loud k0 (q++i::U) a w H G->
   (Region.wanted o (yielded ops a.tmps)=false/\RW P ops Q A loud k0 (q++U) (a.put o.dst undef) w H G)\/
   (Region.wanted o (yielded ops a.tmps)=true/\o.wp P a w (λI z=>(∀b∈G,A i b.1=false->b.2 z)/\RW P ops Q A loud k0 (q++U) I z ((i,w)::H) G) Vf):=by
 intro q
 induction q with
 | nil =>
  intro a w H G _ h;simp only[List.nil_append,RW,Y]at h;by_cases j:Region.wanted o (yielded ops a.tmps)=true
  .rw[if_pos j]at h;rcases h with⟨h,_⟩|⟨_,h,_⟩|⟨_,_,h⟩
   .omega
   .rw[K]at h;cases h
   .exact .inr ⟨j,h⟩
  .rw[if_neg j]at h;exact .inl ⟨by simpa using j,h⟩
 | cons x q ih =>
  intro a w H G hx h;have⟨E,N⟩:=hx x zAd;have O:∀y∈q,NZ ops A loud y i/\y<k0:=λy hy=>hx y (zAk _ hy);have D:loud x=false:=E.one.resolve_right (by rw[K];simp);simp only[List.cons_append,RW]at h ⊢;cases m:ops[x]? with
  |none=>simp[m]at h
  | some ox =>
   simp only[m]at h ⊢;have⟨p1,F,p3⟩:=Oper.apart_spec (E.apart ox o m Y);have aa:=t i o Y;have L:=t x ox m;have ex:∀(b:Act) u,execOp (b.put o.dst u).eval ox=execOp b.eval ox:=λb u=>execOp_put (ops:=ops) ox L b o.dst u p3;have wx:∀(b:Act) u,Region.wanted ox (yielded ops (b.put o.dst u).tmps)=Region.wanted ox (yielded ops b.tmps):=λb u=>wanted_put ox b o.dst u p3;have S:∀(b:Act) u,Region.wanted o (yielded ops (b.put ox.dst u).tmps)=Region.wanted o (yielded ops b.tmps):=λb u=>wanted_put o b ox.dst u p1;have lx:=λ{I:Act} (J:ZF a I o.dst)=>QA (ops:=ops) L p3 J;have s:∀(u:V0) (Z:Act->V2->Prop),o.wp P (a.put ox.dst u) w Z Vf->o.wp P a w (λI z=>ZF a I o.dst/\Z (I.put ox.dst u) z) Vf:=by
    intro u Z k;unfold Oper.wp at *
    rw[execOp_put (ops:=ops) o aa a ox.dst u p1]at k;generalize (execOp a.eval o).run P w=r at *
    cases r with
    | ok n z =>
     cases n<;>simp only[Oper.upon]at k ⊢
     case value v=>exact⟨⟨v,a.defers,rfl⟩,by rw[<-Act.put_comm a u v F];exact k⟩
     case skip=>exact⟨⟨undef,a.defers,rfl⟩,by rw[<-Act.put_comm a u undef F];exact k⟩
     case defer e=>exact⟨⟨undef,e::a.defers,rfl⟩,by rw[<-Act.put_comm _ u undef F,<-Act.put_defers];exact k⟩
     case enter f args=>
      refine Calls.mono k λe ab g=>?_;cases e with
      |returned v=>exact⟨⟨v,a.defers,rfl⟩,by rw[<-Act.put_comm a u v F];exact g⟩
      |panicked c=>exact g
      |outgrown=>exact g
     case row row args=>exact Rows.mono k λv ab g=>⟨⟨v,a.defers,rfl⟩,by rw[<-Act.put_comm a u v F];exact g⟩
    |halt y z=>cases y<;>simp only[Oper.upon]at k ⊢ <;> exact k
   by_cases j:Region.wanted ox (yielded ops a.tmps)=true
   .rw[if_pos j]at h;rcases h with⟨h,_⟩|⟨_,_,R,T,M,h⟩|⟨_,h,_⟩
    .omega
    .rcases ih _ w H _ O h with⟨d,B⟩|⟨d,B⟩
     .rw[S]at d;refine .inl ⟨d,?_⟩;rw[if_pos (by rw[wx];exact j)];exact .inr (.inl ⟨N,D,R,T,M.of_exec (ex a undef),by rw[<-Act.put_comm a R undef F];exact B⟩)
     .rw[S]at d;refine .inr ⟨d,pG ?_ (s R _ B)⟩;rintro a1 w1 ⟨J,g,hr⟩;refine⟨λb hb=>g b (zAk _ hb),?_⟩
      rw[if_pos (by rw[(lx J).2];exact j)];refine .inr (.inl ⟨N,D,R,T,?_,hr⟩);have⟨V,W,X⟩:=M;refine⟨g (x,T) zAd E.na,λl C hA=>?_,λz p=>by rw[(lx J).1];exact X z p⟩
      rcases zAi.1 C with rfl|C
      .exact V
      .exact W l C hA
    .rw[D]at h;cases h
   .rw[if_neg j]at h;have p:Region.wanted ox (yielded ops a.tmps)=false:=by simpa using j
    rcases ih _ w H _ O h with⟨d,B⟩|⟨d,B⟩
    .rw[S]at d;refine .inl ⟨d,?_⟩;rw[if_neg (by rw[wx,p];simp),<-Act.put_comm a undef undef F];exact B
    .rw[S]at d;refine .inr ⟨d,pG ?_ (s undef _ B)⟩;rintro a1 w1 ⟨J,g,hr⟩;refine⟨g,?_⟩
     rw[if_neg (by rw[(lx J).2,p];simp)];exact hr
end
def zY (o:V5):V6 Nat:=(o.after.toList.filter (Region.binds .any)).map (·.on)
def sX (l:V6 V5):V6 Nat:=l.foldl (λa o=>a++[(zY o).foldl (λs e=>s ||| 2^e ||| a.getD e 0) 0]) []
def before (m:V6 Nat) (i j:Nat):V4:=(m.getD i 0).testBit j
def gI:Op->V4
 | .move _ | .assign _ | .pick .. | .build .. | .load .. | .binOp .. | .unOp .. | .convert .. | .fieldAddr .. | .field .. | .indexAddr .. | .index .. | .lookup .. | .extract .. | .slice .. | .makeFunc .. | .nilCheck .. =>false
 | .call ⟨.builtin .len,_,_⟩ | .call ⟨.builtin .max,_,_⟩ | .call ⟨.builtin .min,_,_⟩ | .call ⟨.builtin .cap,_,_⟩=>false
 |_=>true
def Hl:Op->V4
 | .select .. =>true
 |_=>false
def eK (l:V6 V5) (i:Nat):V4:=((l[i]?).map λo=>gI o.op).getD false
def chk (l:V6 V5) (m:V6 Nat) (b:Nat):V4:=
  (List.range l.length).all λi=>match l[i]? with
    |none=>false
    | some o =>
      (zY o).all (λe=>Nat.blt e i&&before m i e&&(List.range i).all (λk=> !before m e k||before m i k)) &&
      (List.range l.length).all (λk=> !before m i k||(Nat.blt k i&&(zY o).any (λe=>Nat.beq e k||before m e k))) &&
      !Hl o.op &&
      (if Nat.ble b i then(List.range i).all (λx=>before m i x)
       else(List.range i).all (λx=>before m i x||(match l[x]? with|none=>false|some a=>a.apart l.toArray o&&(!gI a.op || !gI o.op))))
structure Chk (l:List Oper) (m:List Nat) (k0:Nat):Prop where
 edge:∀(i:Nat) (o:Oper),l[i]?=some o->∀e∈zY o,e<i/\before m i e=true
 trans:∀(i:Nat) (o:Oper),l[i]?=some o->∀k,before m i k=true->k<l.length->k<i/\∃e∈zY o,e=k\/before m e k=true
 sel:∀(i:Nat) (o:Oper),l[i]?=some o->∀cs b,o.op ≠ .select cs b
 tail:∀i x,i<l.length->k0<=i->x<i->before m i x=true
 ind:∀(i x:Nat) (oi ox:Oper),l[i]?=some oi->l[x]?=some ox->i<k0->x<i->before m i x=false->ox.apart l.toArray oi=true/\(gI ox.op=false\/gI oi.op=false)
theorem bM {b:Type} {l:V6 b} {i:Nat} {x:b} (h:l[i]?=some x):i<l.length:=by
 rcases zAy i l.length with a|a
 .exact a
 .rw[zAs a]at h;cases h
theorem aan {l:V6 V5} {m:V6 Nat} {q:Nat} (h:chk l m q=true):Chk l m q:=by
  have a:∀(i:Nat) (o:V5),l[i]?=some o->
      ((zY o).all (λe=>Nat.blt e i&&before m i e&&(List.range i).all (λk=> !before m e k||before m i k))=true)/\
      ((List.range l.length).all (λk=> !before m i k||(Nat.blt k i&&(zY o).any (λe=>Nat.beq e k||before m e k)))=true)/\Hl o.op=false/\
      ((if Nat.ble q i then(List.range i).all (λx=>before m i x)
       else(List.range i).all (λx=>before m i x||(match l[x]? with|none=>false|some r=>r.apart l.toArray o&&(!gI r.op || !gI o.op))))=true):=by
    intro i o c;have:=zA2.1 h i (zAg.2 (bM c));simp only[c,zA5,zB4]at this;exact⟨this.1.1.1,this.1.1.2,this.1.2,this.2⟩
  refine⟨?_,?_,?_,?_,?_⟩
  · intro i o c e j;have:=zA2.1 (a i o c).1 e j;simp only[zA5,zAp]at this;exact⟨this.1.1,this.1.2⟩
  · intro i o c k g d;have:=zA2.1 (a i o c).2.1 k (zAg.2 d);simp only[g,Bool.not_true,Bool.false_or,zA5,zAp,List.any_eq_true,Bool.or_eq_true]at this;have⟨s,e,j,f⟩:=this;refine⟨s,e,j,?_⟩
    rcases f with f|f
    · exact .inl (zA4 f)
    · exact .inr f
  · intro i o c v b e;have:=(a i o c).2.2.1;rw[e]at this;cases this
  · intro i x n g p;obtain⟨o,c⟩:∃o,l[i]?=some o:=⟨_,zA1 n⟩
    have:=(a i o c).2.2.2;rw[if_pos (by simpa using g)]at this;exact zA2.1 this x (zAg.2 p)
  · intro i x u r n p g d t;have:=(a i u n).2.2.2;rw[if_neg (by simpa using g)]at this;have:=zA2.1 this x (zAg.2 d);simp only[t,Bool.false_or,p,zA5,Bool.or_eq_true,zB4]at this;exact this
section
variable {P:Program} {Q:Exit->Act->V2->Prop} {l:V6 V5} {m:V6 Nat} {k0:Nat}
theorem RW.any (hc:Chk l m k0):∀(g:Nat) (L:V6 Nat) (c:Array V4) (a:Act) (w:V2) (H:V6 (Nat×V2)) (Y:V6 (Nat×(V2->Prop))),
  L.length<=g->c.size=l.length->L.Pairwise (· < ·)->(∀i,i∈L↔i<l.length/\c.getD i true=false)->
  (∀j k,c.getD j false=true->before m j k=true->k<l.length->c.getD k false=true)->
  RW P l.toArray Q (before m) (eK l) k0 L a w H Y->wpAny P .any l.toArray Q g c a w:=by
 intro g
 induction g with
 |zero=>
  intro L c a w H Y K W p d R h;have hL:L=[]:=zAl V7;subst hL;refine⟨?_,h⟩
  rw[List.eq_nil_iff_forall_not_mem];intro i hi;have⟨h0,o,A,_⟩:=mem_ready.1 hi;have:i<l.length:=by have:=(zA8.1 A).1;simpa using this
  have:=(d i).2 ⟨this,h0⟩;simp at this
 | succ g ih =>
  intro L c a w H Y K W p d R h;refine⟨λF=>?_,λi hi=>?_⟩
  .cases L with
   |nil=>exact h
   | cons i L =>
    exfalso;have⟨q,h0⟩:=(d i).1 zAd;obtain⟨o,A⟩:∃o,l[i]?=some o:=⟨_,zA1 q⟩
    have:i∈Region.ready .any l.toArray c:=by
     refine mem_ready.2 ⟨h0,o,by simpa using A,λe he O=>?_⟩;have aj:e.on∈zY o:=zB5.2 ⟨e,List.mem_filter.2 ⟨by simpa using he,O⟩,rfl⟩;have ap:=(hc.edge i o A e.on aj).1;cases hg:c.getD e.on true with
     |false=>
      have hm:=(d e.on).2 ⟨V7,hg⟩;rcases zAi.1 hm with e1|e1
      .omega
      .have:=(List.pairwise_cons.1 p).1 _ e1;omega
     |true=>
      have:e.on<c.size:=V7
      simp[this]at hg ⊢;exact hg
    rw[F]at this;simp at this
  .have⟨h0,o,ah,S⟩:=mem_ready.1 hi;have A:l[i]?=some o:=by simpa using ah
   have q:i<l.length:=bM A;have ak:i∈L:=(d i).2 ⟨q,h0⟩;obtain⟨u,L2,rfl⟩:=List.append_of_mem ak;have hs:=List.pairwise_append.1 p;have D:∀x∈u,x<i:=λx t=>hs.2.2 x t i zAd;have ab:∀x∈L2,i<x:=λx t=>(List.pairwise_cons.1 hs.2.1).1 x t;have I:∀k,before m i k=true->k<l.length->c.getD k false=true:=by
    intro k X ag;have⟨_,e,he,T⟩:=hc.trans i o A k X ag;obtain⟨ed,ai,rfl⟩:=zB5.1 he;have⟨ac,ad⟩:=List.mem_filter.1 ai;have hl:=S ed (by simpa using ac) ad;rcases T with rfl|T
    .exact hl
    .exact R _ _ hl T ag
   have V:∀x∈u,before m i x=false:=by
    intro x t;cases O:before m i x with
    |false=>rfl
    |true=>
     have G:=((d x).1 (by simp[t]))
     have:=I x O G.1;have am:x<c.size:=V7
     simp[am]at this G;rw[this]at G;simp at G
   -- the rest
   have next:∀z C H' N,RW P l.toArray Q (before m) (eK l) k0 (u++L2) z C H' N->wpAny P .any l.toArray Q g (c.setIfInBounds i true) z C:=by
    intro z C H' N F;refine ih (u++L2) _ z C H' N ?_ (by simp[W]) ?_ ?_ ?_ F
    .simp at K ⊢;omega
    .exact List.pairwise_append.2 ⟨hs.1,(List.pairwise_cons.1 hs.2.1).2,λx t y hy=>by have:=D x t;have:=ab y hy;omega⟩
    .intro j;by_cases e:i=j
     .subst e;constructor
      .intro f;rcases zAx.1 f with f|f
       .have:=D i f;omega
       .have:=ab i f;omega
      .rintro⟨_,f⟩;simp[W,q]at f
     .rw[getD_set_ne true e];have:=d j;simp only[zAx,zAi]at this ⊢;constructor
      .intro f;exact this.1 (by rcases f with f|f;exact .inl f;exact .inr (.inr f))
      .intro f;rcases this.2 f with f|rfl|f
       .exact .inl f
       .exact absurd Z e
       .exact .inr f
    .intro j k f af X;by_cases e:i=j
     .subst e;exact getD_set_true (I k af X)
     .rw[getD_set_ne false e]at f;exact getD_set_true (R j k f af X)
   have s:l.toArray[i]?=some o:=ah;by_cases X:k0<=i
   .have aa:u=[]:=by
     cases u with
     |nil=>rfl
     |cons x u=>
      have n:=V x zAd;have r:=hc.tail i x q X (D x zAd);rw[n]at r;cases r
    subst aa;simp only[List.nil_append,RW,s]at h;unfold wpOp;simp only[s];split
    .rename_i hw;rw[if_pos hw]at h;rcases h with⟨_,h|h⟩|⟨h,_⟩|⟨h,_⟩
     .exact .inl (Oper.wp_mono (λz C F=>next z C _ _ F) h)
     .exact .inr (Oper.rnd_mono (λz C F=>next z C _ _ F) h)
     .omega
     .omega
    .rename_i hw;rw[if_neg hw]at h;exact next _ _ _ _ h
   .have U:i<k0:=V7
    have J:∀x∈u,NZ l.toArray (before m) (eK l) x i/\x<k0:=by
     intro x t;have al:=D x t;obtain⟨ox,E⟩:∃ox,l[x]?=some ox:=⟨_,zA1 V7⟩
     have ae:=hc.ind i x o ox A E U al (V x t);refine⟨⟨V x t,?_,?_,?_⟩,V7⟩
     .cases O:before m x i with
      |false=>rfl
      |true=>have:=(hc.trans x ox E i O q).1;omega
     .intro ao an n r;have e1:ox=ao:=by simpa [E]using n
      have e2:o=an:=by simpa [A]using r
      rw[<-e1,<-e2];exact ae.1
     .rcases ae.2 with n|n
      .exact .inl (by simp[eK,E,n])
      .exact .inr (by simp[eK,A,n])
    have M:∀(i:Nat) (o:V5),l.toArray[i]?=some o->∀cs b,o.op ≠ .select cs b:=λi o h=>hc.sel i o (by simpa using h);unfold wpOp;simp only[s];cases hl:eK l i with
    | false =>
     rcases JP M s U hl u a w H Y J h with⟨n,r⟩|⟨n,v,B,⟨O,_,F⟩,r⟩
     .rw[n];exact next _ _ _ _ r
     .rw[n];exact .inl (by simp only[Oper.wp,F w O,Oper.upon];exact next _ _ _ _ r)
    | true =>
     rcases KM M s U hl u a w H Y J h with⟨n,r⟩|⟨n,r⟩
     .rw[n];exact next _ _ _ _ r
     .rw[n];exact .inl (OM (pG (λz C hh=>next z C _ _ hh.2) r))
theorem Py {g:V1 Nat} {id:Nat} {a:Act} {w:V2} (e:l.all lW=true) (f:P.follows .mixedOrders=true) (d:chk l m k0=true)
  (h:RW P l.toArray Q (before m) (eK l) k0 (List.range l.length) a w.drew [] []):(Code.region id l.toArray true).wpr g P Q a w:=by
 refine Jp e f<|RW.any (aan d) _ (List.range l.length) _ a _ [] [] V8 V8 List.pairwise_lt_range ?_ ?_ h
 .intro i;simp only[zAg];constructor
  .intro c;exact⟨c,by simp[c]⟩
  .exact λh=>h.1
 .intro j k b;simp[Array.getElem?_replicate]at b;split at b<;>simp at b
def aco (c:zW):V6 (Nat×V6 bF×V6 bF)->V6 (Nat×V2)->Prop
 | [],[]=>True
 |h::H,x::X=>h.1=x.1/\St c h.2.1 h.2.2 x.2/\aco c H X
 |_,_=>False
def QU (c:zW):V6 (Nat×V6 bF×V6 bF)->V6 (Nat×(V2->Prop))->Prop
 | [],[]=>True
 |b::B,x::X=>x=(b.1,St c b.2.1 b.2.2)/\QU c B X
 |_,_=>False
def JR (c:zW) (n:Sz) (d:Fr) (M L:V6 bF) (H b:V6 (Nat×V6 bF×V6 bF)) (G:Act->V2->V6 (Nat×V2)->V6 (Nat×(V2->Prop))->Prop):Prop:=
 ∀a w X Y,Kl n d a->St c M L w->aco c H X->QU c b Y->G a w X Y
variable {c:zW} {n:Sz} {σ:Fr} {M L Mx Lx:V6 bF} {H Bs:V6 (Nat×V6 bF×V6 bF)}
theorem JR.start {f:V1 Nat} {id:Nat} (m:V6 Nat) (k0:Nat) (e:P.follows .mixedOrders=true) (b:chk l m k0=true)
  (h:JR c n σ M L [] [] (RW P l.toArray Q (before m) (eK l) k0 (List.range l.length))) (d:l.all lW=true:=by rfl):J c n σ M L ((Code.region id l.toArray true).wpr f P Q):=λa w s t=>
 Py d e b (h a w.drew [] [] s (t.ext ((Below.refl _ _).drew)) trivial trivial)
theorem JR.done (h:J c n σ M L (Q .normal)):JR c n σ M L H Bs (RW P l.toArray Q (before m) (eK l) k0 []):=λa w _ _ s t _ _=>h a w s t
structure LP (M L Mx Lx:List bF):Prop where
 hM:aW M Mx
 hL:jS L Lx
theorem LP.st {M L Mx Lx:V6 bF} (h:LP M L Mx Lx) {w:V2} (t:St c M L w):St c Mx Lx w:=t.weak h.hM h.hL
def aR (A:Nat->V4) (Mx Lx:V6 bF):V6 (Nat×V6 bF×V6 bF)->Prop
 | []=>True
 |h::H=>(A h.1=true\/LP h.2.1 h.2.2 Mx Lx)/\aR A Mx Lx H
def nS (A:Nat->V4) (M L:V6 bF):V6 (Nat×V6 bF×V6 bF)->Prop
 | []=>True
 |b::B=>(A b.1=true\/LP M L b.2.1 b.2.2)/\nS A M L B
theorem aR.use {A:Nat->V4} {Mx Lx:V6 bF}:∀{H:V6 (Nat×V6 bF×V6 bF)} {X:V6 (Nat×V2)},aR A Mx Lx H->aco c H X->∀x∈X,A x.1=false->St c Mx Lx x.2
 | [],[],_,_,x,a,_=>by simp at a
 | [],_::_,_,h,_,_,_=>h.elim
 |_::_,[],_,h,_,_,_=>h.elim
 | h :: H, y :: X, ho, hi, x, a, hA =>by
  rcases zAi.1 a with rfl|a
  .rcases ho.1 with b|b
   .rw[hi.1,hA]at b;cases b
   .exact b.st hi.2.1
  .exact aR.use ho.2 hi.2.2 x a hA
theorem nS.use {A:Nat->V4} {M L:V6 bF} {w:V2} (t:St c M L w):∀{B:V6 (Nat×V6 bF×V6 bF)} {X:V6 (Nat×(V2->Prop))},nS A M L B->QU c B X->∀x∈X,A x.1=false->x.2 w
 | [],[],_,_,x,a,_=>by simp at a
 | [],_::_,_,h,_,_,_=>h.elim
 |_::_,[],_,h,_,_,_=>h.elim
 | b :: B, y :: X, ho, hi, x, a, hA =>by
  rcases zAi.1 a with rfl|a
  .rcases ho.1 with d|d
   .rw[hi.1]at hA;rw[d]at hA;cases hA
   .rw[hi.1];exact d.st t
  .exact nS.use t ho.2 hi.2 x a hA
theorem JR.quiet {i:Nat} {b:V6 Nat} {d:Nat} {g:Op} {k:V9} {f:String} {e:Array Edge} {v:V0} (Mx Lx:V6 bF)
  (p:l[i]?=some ⟨some d,g,k,f,e,none⟩) (y:Nat.blt i k0=true) (z:gI g=false) (A:Y P c n σ Mx Lx ⟨some d,g,k,f,e,none⟩ v) (r:LP M L Mx Lx) (q:aR (before m i) Mx Lx H) (x:Nat.blt d n.sz=true)
  (h:JR c n ((d,v)::σ) M L H ((i,Mx,Lx)::Bs) (RW P l.toArray Q (before m) (eK l) k0 b)):JR c n σ M L H Bs (RW P l.toArray Q (before m) (eK l) k0 (i::b)):=λa w X Y s t o u=>by
 have j:l.toArray[i]?=some ⟨some d,g,k,f,e,none⟩:=by simpa using p
 simp only[RW,j];rw[if_pos (by simp[Region.wanted])];refine .inr (.inl ⟨by simpa [zAp]using y,by simp[eK,p,z],v,St c Mx Lx,⟨r.st t,q.use o,λC B=>A a C s B⟩,h _ w X _ (s.put d v x) t o ⟨rfl,u⟩⟩)
theorem Yj {i:Nat} {e:V6 Nat} {d:Nat} {k:Op} {p:V9} {g:String} {f:Array Edge} {j:Nat} {b:V4} {v:V0} (Mx Lx:V6 bF)
  (r:l[i]?=some ⟨some d,k,p,g,f,some (j,b)⟩) (B:Nat.blt i k0=true) (C:gI k=false) (A:gv l.toArray σ j=some b) (D:Y P c n σ Mx Lx ⟨some d,k,p,g,f,some (j,b)⟩ v) (x:LP M L Mx Lx) (u:aR (before m i) Mx Lx H) (z:Nat.blt d n.sz=true)
  (h:JR c n ((d,v)::σ) M L H ((i,Mx,Lx)::Bs) (RW P l.toArray Q (before m) (eK l) k0 e)):JR c n σ M L H Bs (RW P l.toArray Q (before m) (eK l) k0 (i::e)):=λa w X Y s t q y=>by
 have o:l.toArray[i]?=some ⟨some d,k,p,g,f,some (j,b)⟩:=by simpa using r
 simp only[RW,o];rw[if_pos (by simp[Region.wanted,Dc s A])];refine .inr (.inl ⟨by simpa [zAp]using B,by simp[eK,r,C],v,St c Mx Lx,⟨x.st t,u.use q,λF E=>D a F s E⟩,h _ w X _ (s.put d v z) t q ⟨rfl,y⟩⟩)
theorem bA {i:Nat} {e:V6 Nat} {d:Nat} {p:Op} {q:V9} {g:String} {f:Array Edge} {j:Nat} {b o:V4}
  (z:l[i]?=some ⟨some d,p,q,g,f,some (j,b)⟩) (y:gv l.toArray σ j=some o) (v:(o==b)=false) (x:Nat.blt d n.sz=true)
  (h:JR c n ((d,undef)::σ) M L H Bs (RW P l.toArray Q (before m) (eK l) k0 e)):JR c n σ M L H Bs (RW P l.toArray Q (before m) (eK l) k0 (i::e)):=λa w X Y s t r u=>by
 have k:l.toArray[i]?=some ⟨some d,p,q,g,f,some (j,b)⟩:=by simpa using z
 simp only[RW,k];rw[if_neg (by simp[Region.wanted,Dc s y,v])];exact h _ w X Y (s.put d undef x) t r u
theorem JR.guard {i f:Nat} {rest:V6 Nat} {d:V1 Tmp} {u:Op} {v:V9} {o:String} {g:Array Edge} {j:Nat} {e b:V4}
  (_:l[i]?=some ⟨d,u,v,o,g,some (j,b)⟩) (_:(l[j]?).bind (·.dst)=some f) (p:lk σ f=some (.bool e))
  (r:e=true->JR c n ((f,.bool true)::σ) M L H Bs (RW P l.toArray Q (before m) (eK l) k0 (i::rest)))
  (q:e=false->JR c n ((f,.bool false)::σ) M L H Bs (RW P l.toArray Q (before m) (eK l) k0 (i::rest))):JR c n σ M L H Bs (RW P l.toArray Q (before m) (eK l) k0 (i::rest)):=by
 cases e
 .exact λa w X Y s t h k=>q Z a w X Y (s.over (s.slot _ _ p)) t h k
 .exact λa w X Y s t h k=>r Z a w X Y (s.over (s.slot _ _ p)) t h k
theorem wE {i e:Nat} {a:V6 Nat} {d:V1 Tmp} {t:Op} {u:V9} {g:String} {f:Array Edge} {j:Nat} {p:Prop} {_:Decidable p} {b:V4}
  (q:l[i]?=some ⟨d,t,u,g,f,some (j,b)⟩) (r:(l[j]?).bind (·.dst)=some e) (o:lk σ e=some (.bool (decide p)))
  (s:p->JR c n ((e,.bool true)::σ) M L H Bs (RW P l.toArray Q (before m) (eK l) k0 (i::a)))
  (k:¬p->JR c n ((e,.bool false)::σ) M L H Bs (RW P l.toArray Q (before m) (eK l) k0 (i::a))):JR c n σ M L H Bs (RW P l.toArray Q (before m) (eK l) k0 (i::a)):=
 JR.guard q r o (λh=>s (of_decide_eq_true h)) (λh=>k (of_decide_eq_false h))
def aO (P:Program) (c:zW) (n:Sz) (σ:Fr) (M L:V6 bF) (o:V5) {A:Type} (b:A->V0) (M' L':A->V6 bF):Prop:=
 ∀a w,Kl n σ a->St c M L w->o.wp P a w (λd e=>∃x:A,d=a.put o.dst (b x)/\St c (M' x) (L' x) e) Vf
theorem aK {A:Type} {i:A->V0} {M' L':A->V6 bF} {f:Array V5} {b:V6 V5} {d:Nat} {j:Op} {k:V9} {g:String} {e:Array Edge}
  (q:aO P c n σ M L ⟨some d,j,k,g,e,none⟩ i M' L') (o:Nat.blt d n.sz=true) (h:∀x,J c n ((d,i x)::σ) (M' x) (L' x) (wpList P f Q b)):
  J c n σ M L (wpList P f Q (⟨some d,j,k,g,e,none⟩::b)):=λa w s t=>
 qK Z (OM (pG (λv u ⟨x,p,r⟩=>by subst p;exact h x _ u (s.put d _ o) r) (q a w s t)))
theorem fU {A:Type} {k:A->V0} {p o:A->V6 bF} {f:Array V5} {e:V6 V5} {d:Nat} {q:Op} {r:V9} {i:String} {g:Array Edge} {j:Nat} {b:V4}
  (y:gv f σ j=some b) (z:aO P c n σ M L ⟨some d,q,r,i,g,some (j,b)⟩ k p o) (u:Nat.blt d n.sz=true) (h:∀x,J c n ((d,k x)::σ) (p x) (o x) (wpList P f Q e)):
  J c n σ M L (wpList P f Q (⟨some d,q,r,i,g,some (j,b)⟩::e)):=λa w s t=>
 qK (by simp[Region.wanted,Dc s y]) (OM (pG (λD C ⟨x,v,B⟩=>by subst v;exact h x _ C (s.put d _ u) B) (z a w s t)))
theorem zBa {A:Type} {g:A->V0} {o k:A->V6 bF} {i:Nat} {b:V6 Nat} {d:Nat} {j:Op} {q:V9} {f:String} {e:Array Edge}
  (u:l[i]?=some ⟨some d,j,q,f,e,none⟩) (C:Nat.blt i k0=true) (D:gI j=true) (E:aO P c n σ M L ⟨some d,j,q,f,e,none⟩ g o k) (B:Nat.blt d n.sz=true)
  (y:∀x,nS (before m i) (o x) (k x) Bs) (h:∀x,JR c n ((d,g x)::σ) (o x) (k x) ((i,M,L)::H) Bs (RW P l.toArray Q (before m) (eK l) k0 b)):
  JR c n σ M L H Bs (RW P l.toArray Q (before m) (eK l) k0 (i::b)):=λa w X Y s t z r=>by
 have p:l.toArray[i]?=some ⟨some d,j,q,f,e,none⟩:=by simpa using u
 simp only[RW,p];rw[if_pos (by simp[Region.wanted])];refine .inr (.inr ⟨by simpa [zAp]using C,by simp[eK,u,D],pG ?_ (E a w s t)⟩);rintro G F ⟨x,rfl,v⟩;exact⟨(y x).use v r,h x _ F _ Y (s.put d _ B) v ⟨rfl,t,z⟩ r⟩
theorem Fo {A:Type} {k:A->V0} {q p:A->V6 bF} {i:Nat} {e:V6 Nat} {d:Nat} {o:Op} {u:V9} {g:String} {f:Array Edge} {j:Nat} {b:V4}
  (y:l[i]?=some ⟨some d,o,u,g,f,some (j,b)⟩) (F:Nat.blt i k0=true) (G:gI o=true) (E:gv l.toArray σ j=some b) (I:aO P c n σ M L ⟨some d,o,u,g,f,some (j,b)⟩ k q p) (D:Nat.blt d n.sz=true)
  (B:∀x,nS (before m i) (q x) (p x) Bs) (h:∀x,JR c n ((d,k x)::σ) (q x) (p x) ((i,M,L)::H) Bs (RW P l.toArray Q (before m) (eK l) k0 e)):
  JR c n σ M L H Bs (RW P l.toArray Q (before m) (eK l) k0 (i::e)):=λa w X Y s t C v=>by
 have r:l.toArray[i]?=some ⟨some d,o,u,g,f,some (j,b)⟩:=by simpa using y
 simp only[RW,r];rw[if_pos (by simp[Region.wanted,Dc s E])];refine .inr (.inr ⟨by simpa [zAp]using F,by simp[eK,y,G],pG ?_ (I a w s t)⟩);rintro K J ⟨x,rfl,z⟩;exact⟨(B x).use z v,h x _ J _ Y (s.put d _ D) z ⟨rfl,t,C⟩ v⟩
theorem RW.tail {X:V6 (Nat×V2)} {Y:V6 (Nat×(V2->Prop))}:∀(r:V6 Nat) (b:V6 V5),(∀i∈r,k0<=i)->r.map (l[·]?)=b.map some->∀a w,wpList P l.toArray Q b a w->RW P l.toArray Q (before m) (eK l) k0 r a w X Y
 | [],[],_,_,_,_,h=>h
 | [],_::_,_,e,_,_,_=>by simp at e
 |_::_,[],_,e,_,_,_=>by simp at e
 | i :: r, o :: b, hk, e, a, w, h =>by
  simp only[List.map_cons,List.cons.injEq]at e;have d:l.toArray[i]?=some o:=by simpa using e.1
  have g:=λa w=>RW.tail (X:=X) (Y:=Y) r b (λi j=>hk i (zAk _ j)) e.2 a w;simp only[RW,d];unfold wpList at h;split
  .rename_i f;rw[if_pos f]at h;refine .inl ⟨hk i zAd,?_⟩;rcases h with h|h
   .exact .inl (Oper.wp_mono (λa w h=>g a w h) h)
   .exact .inr (Oper.rnd_mono (λa w h=>g a w h) h)
  .rename_i f;rw[if_neg f]at h;exact g _ _ h
theorem JR.tail {r:V6 Nat} {b:V6 V5} (f:r.all (Nat.ble k0)=true) (d:r.map (l[·]?)=b.map some) (h:J c n σ M L (wpList P l.toArray Q b)):JR c n σ M L H Bs (RW P l.toArray Q (before m) (eK l) k0 r):=
 λa w _ _ s t _ _=>RW.tail r b (λi e=>by simpa using zA2.1 f i e) d a w (h a w s t)
end
structure iW (α:Type) where
 sz:Nat
 pos:0<sz
 enc:α->List V0
 len:∀x,(enc x).length=sz
def iW.int (k:IntKind):iW Int:=⟨1,Nat.one_pos,λx=>[.int k x],λ_=>rfl⟩
def iW.bool:iW V4:=⟨1,Nat.one_pos,λx=>[.bool x],λ_=>rfl⟩
def eD:iW V0:=⟨1,Nat.one_pos,λx=>[x],λ_=>rfl⟩
def cellsOf {a:Type} (e:iW a) (xs:V6 a):V6 V0:=xs.flatMap e.enc
theorem gH {b:Type} (e:iW b) (a:V6 b):(cellsOf e a).length=a.length*e.sz:=by
 induction a with
 |nil=>simp[cellsOf]
 |cons x a c=>simp only[cellsOf,List.flatMap_cons,zA0,e.len,zA3,zAt]at *;omega
theorem Bp {c:Type} (e:iW c) (a:V6 c):∀(i:Nat) (x:c),a[i]?=some x->∀j u,(e.enc x)[j]?=some u->(cellsOf e a)[i*e.sz+j]?=some u:=by
 induction a with
 |nil=>intro i x h;simp at h
 | cons y a ih =>
  intro i x h j u b;simp only[cellsOf,List.flatMap_cons];cases i with
  |zero=>
   simp at h;subst h;rw[zAe (by have:=bM b;omega)];simpa using b
  |succ i=>
   simp only[List.getElem?_cons_succ]at h;rw[zA9 (by rw[e.len,zAt];omega),e.len];have:(i+1)*e.sz+j - e.sz=i*e.sz+j:=by rw[zAt];omega
   rw[this];exact ih i x h j u b
theorem xJ {c:Type} (e:iW c) (a b:V6 c):cellsOf e (a++b)=cellsOf e a++cellsOf e b:=by simp[cellsOf]
def Hz {g:Type} (e:iW g) (w:V2) (F:Nat->Prop) (v:V0) (f:V6 g):Prop:=
 f.length<=140737488355328/\(cellsOf e f).all one=true/\((v = .slice none 0 0/\f=[])\/∃b d a T,∃c:Array V0,v = .slice (some ⟨b,d,none⟩) f.length a/\F b/\w.heap[b]?=some (.cells c T (0,0))/\
  f.length<=a/\d+a*e.sz<=c.size/\(c.toList.drop d).take (f.length*e.sz)=cellsOf e f)
def Ar {g:Type} (e:iW g) (v:V0) (xs:V6 g):bF where
 p w F:=Hz e w F v xs
 mono:=fun⟨i,j,h⟩ n=>⟨i,j,by
  rcases h with h|⟨b,d,a,T,c,o,m,f,r⟩
  .exact .inl h
  .have⟨k,l⟩:=n b m (zA8.1 f).1;exact .inr ⟨b,d,a,T,c,o,k,by rw[l];exact f,r⟩⟩
section
variable {α:Type} {e:iW α} {w:V2} {F:Nat->Prop} {v:V0} {xs:V6 α}
theorem Hz.cell (h:Hz e w F v xs) {i:Nat} {x:α} (c:xs[i]?=some x) {j:Nat} {u:V0} (l:(e.enc x)[j]?=some u):w.cell? (PE v (i*e.sz+j))=some u:=by
 have⟨_,_,h⟩:=h;rcases h with⟨_,h⟩|⟨b,n,d,T,f,m,_,g,p,o,k⟩
 .subst h;simp at c
 .have a:=Bp e xs i x c j u l;rw[<-k,zAn]at a;split at a
  .rw[zAq]at a;subst m;simp only[PE,gQ];simp[World.cell?,g];simpa using a
  .cases a
theorem Zo (h:Hz e w F v xs) (g:xs≠[]) (o:Nat):w.frozen? (PE v o)=false:=by
 have⟨_,_,h⟩:=h;rcases h with⟨_,h⟩|⟨b,i,a,T,c,f,_,d,_⟩
 .exact absurd h g
 .subst f;simp only[PE,gQ];simp[World.frozen?,d]
end
section
variable {P:Program} {rd:V1 Nat} {c:zW} {n:Sz} {σ:Fr} {M L:V6 bF} {Q:Exit->Act->V2->Prop} {ops:Array V5} {rest:V6 V5}
variable {d:V1 Tmp} {D:Nat} {ty:V9} {pos:String} {aft:Array Edge} {g:V1 (Nat×V4)}
variable {α:Type} {e:iW α}
theorem Ah [eB P] (j:Nat) {T E:V9} {G H m I:Nat} {z J:V0} {q:TypeDesc} {x y:V3} {v:V0} {i:Int} {o:V6 α} (C:ev σ x=some v) (F:ev σ y=some (.int .i64 i)) (B:M[j]?=some (Ar e v o))
  (A:eB.tab P T=some ⟨.slice E,G,H,z⟩) (u:eB.tab P E=some ⟨q,m,I,J⟩) (r:0<=i) (l:i<o.length):
  Y P c n σ M L ⟨d,.indexAddr T x y,ty,pos,aft,g⟩ (IR v (i.toNat*m)):=λa w s t=>by
 have⟨S,_,_,h⟩:=t.res B;rcases h with⟨rfl,rfl⟩|⟨b,k,f,K,p,rfl,_⟩
 .simp at l;omega
 .simp[execOp,s.eval C,s.eval F,Mu w (eB.ok A) Z (eB.ok u) b k _ f i r l]
theorem acz [eB P] [Inhabited α] (j:Nat) {T:V9} {C q o:Nat} {z:V0} {f:TypeDesc} {x:V3} {v:V0} {i:Int} {b:V6 α} {u:V0} (B:ev σ x=some (IR v (i.toNat*q+o))) (r:M[j]?=some (Ar e v b))
  (m:eB.tab P T=some ⟨f,1,C,z⟩) (p:Bh f=false) (y:e.sz=q) (A:(e.enc (at' b i))[o]?=some u) (k:0<=i) (l:i<b.length):
  Y P c n σ M L ⟨d,.load T x,ty,pos,aft,g⟩ u:=λa w s t=>by
 have⟨S,h⟩:=t.res r;have:=Hz.cell h (jI k l) A;rw[y]at this;simp[execOp,s.eval B,IR,zQ (eB.ok m) p this]
theorem ZT [eB P] [Inhabited α] (j:Nat) {T:V9} {t:Nat} {z:V0} {b:TypeDesc} {x:V3} {v:V0} {i:Int} {a:V6 α} {u:V0} (s:ev σ x=some (IR v (i.toNat*1))) (m:M[j]?=some (Ar e v a))
  (k:eB.tab P T=some ⟨b,1,t,z⟩) (l:Bh b=false) (p:e.sz=1) (r:(e.enc (at' a i))[0]?=some u) (f:0<=i) (h:i<a.length):
  Y P c n σ M L ⟨d,.load T x,ty,pos,aft,g⟩ u:=acz j (q:=1) (o:=0) s m k l p r f h
theorem HN {a:V6 α} (f:e.sz=1) {i:Nat} {y:α} {u:V0} (h:e.enc y=[u]):cellsOf e (a.set i y)=(cellsOf e a).set i u:=by
 induction a generalizing i with
 |nil=>simp[cellsOf]
 | cons x a ih =>
  obtain⟨p,b⟩:∃p,e.enc x=[p]:=by
   have:=e.len x;rw[f]at this;exact List.length_eq_one_iff.1 this
  cases i with
  |zero=>simp[cellsOf,b,h]
  |succ i=>simp only[List.set_cons_succ,cellsOf,List.flatMap_cons,b,List.singleton_append]at *;rw[ih]
theorem take_set {a:Type} (l:V6 a) (k i:Nat) (u:a):(l.set i u).take k=(l.take k).set i u:=by
 rw[List.take_set]
theorem SR [eB P] (j:Nat) {T:V9} {s2:Nat} {z:V0} {dT:TypeDesc} {x y:V3} {v u:V0} {i:Int} {m:V6 α} (yv:α) (Y:ev σ x=some (IR v (i.toNat*1))) (hy:ev σ y=some u) (X:e.enc yv=[u]) (A:one u=true)
  (V:M[j]?=some (Ar e v m)) (hT:eB.tab P T=some ⟨dT,1,s2,z⟩) (I:e.sz=1) (h0:0<=i) (U:i<m.length)
  (h:J c n σ (M.set j (Ar e v (m.set i.toNat yv))) L (wpList P ops Q rest)):
  J c n σ M L (wpList P ops Q (⟨none,.store T x y,ty,pos,aft,none⟩::rest)):=λa w s t=>by
 refine qK Z ?_;have⟨F,H⟩:=t.res V;have W:i.toNat<m.length:=V7
 have C:m[i.toNat]?=some m[i.toNat]:=zA1 W;have E:m≠[]:=by intro e;subst e;simp at W
 obtain⟨p,hp⟩:∃p,e.enc m[i.toNat]=[p]:=List.length_eq_one_iff.1 ((e.len _).trans I);have f:=Hz.cell H C (j:=0) (u:=p) (by rw[hp];rfl);rw[I,Nat.add_zero,Nat.mul_one]at f;rw[Nat.mul_one]at Y;have o:=Zo H E i.toNat;have G:(execOp a.eval ⟨none,.store T x y,ty,pos,aft,none⟩).run P w = .ok .skip (w.setCell (PE v i.toNat) u):=by
  simp only[execOp,s.eval Y,s.eval hy,IR];simp[OW (eB.ok hT) Z A f o]
 simp only[Oper.wp,G,Oper.upon];refine h _ _ s (t.upd V Z Z Z (by simp[World.setCell]) λF H _=>?_);have⟨hl,U,O⟩:=H;rcases O with⟨_,O⟩|⟨b,l,r,T',K,hv,B,hb,hk,hc,ht⟩
 .exact absurd O E
 .subst hv;have ha:PE (.slice (some ⟨b,l,none⟩) m.length r) i.toNat=⟨b,l+i.toNat,none⟩:=by simp[PE,gQ]
  rw[ha];refine⟨λk _ R=>Below.heap_setCell _ _ _ _ (λe=>R (by simp only at e;subst e;exact B)),F,⟨by simpa using hl,?_,.inr ⟨b,l,r,T',K.setIfInBounds (l+i.toNat) u,V8,B,?_,by simpa using hk,by simpa using hc,?_⟩⟩,λ_ h=>.inl h⟩
  .rw[HN I X,zA2];intro q S;rcases List.mem_or_eq_of_mem_set S with N|N
   .exact zA2.1 U q N
   .rw[N];exact A
  .simp[World.setCell,Array.getElem?_modify,hb]
  .rw[HN I X,<-ht,Array.toList_setIfInBounds,zAb,<-take_set];congr 1;rw[List.drop_set,Q0,Nat.add_sub_cancel_left]
theorem St.allocAr {w:V2} (t:St c M L w) (b:V6 V0) (T:V9) {a:V6 α} {k:Nat} (o:a.length=k) (r:a.length<=140737488355328) (l:b=cellsOf e a) (p:(cellsOf e a).all one=true):
  St c (Ar e (.slice (some ⟨w.heap.size,0,none⟩) k k) a::M) L (w.alloc (.cells b.toArray T)):=by
 have u:=t.alloc b T;have⟨s,F,f,q⟩:=u;refine⟨s,F,⟨λi m h=>?_,f.rng,f.dis⟩,q⟩
 cases i with
 | zero =>
  simp at h;subst h;have j:=f.res 0 _ Z;refine⟨r,p,.inr ⟨w.heap.size,0,k,T,b.toArray,by rw[o],j.1,j.2,V7,?_,?_⟩⟩
  .simp only[zB3,List.size_toArray,l,gH,o];exact zAf _
  .simp only[List.drop_zero,l];rw[List.take_of_length_le (by rw[gH];exact zAf _)]
 |succ i=>exact f.res (i+1) m (by simpa using h)
theorem aO.buildSlice [eB P] {T E:V9} {k K N h O:Nat} {z A:V0} {F:TypeDesc} {m:V6 (Nat×V3)} {l:V6 (Nat×V0)} (xs:V6 α)
    (C:eB.tab P T=some ⟨.slice E,K,N,z⟩) (v:eB.tab P E=some ⟨F,h,O,A⟩) (J:Nat.ble (k*h) 16777216=true) (r:m.map (λp=>(p.1,ev σ p.2))=l.map (λp=>(p.1,some p.2)))
    (f:∀j:Array V0,j.size=k*h->Instr.fill (λi=>some (i*h,h)) j l=some (cellsOf e xs).toArray)
    (H:xs.length=k) (I:Nat.ble xs.length 140737488355328=true) (G:(cellsOf e xs).all one=true):
    aO P c n σ M L ⟨d,.buildSlice T k m.toArray,ty,pos,aft,g⟩ (λb:Nat=>.slice (some ⟨b,0,none⟩) k k) (λb=>Ar e (.slice (some ⟨b,0,none⟩) k k) xs::M) (λ_=>L):=λa w s t=>by
  have x:m.map (λp=>(p.1,a.eval p.2))=l:=by
    clear f
    induction m generalizing l with
    |nil=>cases l<;>simp_all
    | cons p m ih =>
      cases l with
      |nil=>simp at r
      | cons q l =>
        simp only[List.map_cons,List.cons.injEq,Prod.mk.injEq]at r;simp only[List.map_cons,s.eval r.1.2,r.1.1,ih r.2]
  have y : ¬ (16777216 < k * h) := by
      have : k * h ≤ 16777216 := by simpa using J
      omega
  have o:(execOp a.eval ⟨d,.buildSlice T k m.toArray,ty,pos,aft,g⟩).run P w = .ok (.value (.slice (some ⟨w.heap.size,0,none⟩) k k)) (w.alloc (.cells (cellsOf e xs).toArray E)):=by
    simp only[execOp,List.map_toArray,x,Instr.buildSlice];by_cases B:k*h=0
    · have u:=f ((Array.range (k*h)).map ((#[]:Array V0)[· % (#[]:Array V0).size]!)) V8;simp[(eB.ok C).run_und w,(eB.ok v).run_size w,B]at u ⊢;simp[u,newRow]
    · have u:=f ((Array.range (k*h)).map (A.cells[· % A.cells.size]!)) V8;simp[(eB.ok C).run_und w,(eB.ok v).run_size w,(eB.ok v).run_zero w,B,y,u,newRow]
  simp only[Oper.wp,o,Oper.upon];exact⟨w.heap.size,rfl,t.allocAr (cellsOf e xs) E H (by simpa using I) Z G⟩
theorem aO.makeSlice [eB P] {T E:V9} {J K p q:Nat} {z j:V0} {r:TypeDesc} {x:V3} {k:Int} (xs:V6 α)
  (B:eB.tab P T=some ⟨.slice E,J,K,z⟩) (A:eB.tab P E=some ⟨r,p,q,j⟩) (H:ev σ x=some (.int .i64 k)) (u:0<=k) (C:(q:Int)*k<=281474976710656) (y:k<=140737488355328)
  (F:xs.length=k.toNat) (I:(madeCells j.cells (k.toNat*p)).toList=cellsOf e xs) (v:(cellsOf e xs).all one=true):
  aO P c n σ M L ⟨d,.makeSlice T x x,ty,pos,aft,g⟩ (λb:Nat=>.slice (some ⟨b,0,none⟩) k.toNat k.toNat) (λb=>Ar e (.slice (some ⟨b,0,none⟩) k.toNat k.toNat) xs::M) (λ_=>L):=λa w s t=>by
 have⟨o,l,m,f,i⟩:=(eB.ok A).info;simp only at m f i;have G:=run_make (P:=P) w T E o j (eB.ok B).und l i .i64 .i64 k k u (Int.le_refl _) (by rw[f];exact C) V7;have h:(execOp a.eval ⟨d,.makeSlice T x x,ty,pos,aft,g⟩).run P w = .ok (.value (.slice (some ⟨w.heap.size,0,none⟩) k.toNat k.toNat)) (w.alloc (.cells (cellsOf e xs).toArray E)):=by
  simp only[execOp,s.eval H];have:madeCells j.cells (k.toNat*o.size)=(cellsOf e xs).toArray:=by rw[<-I,m]
  simp[G,this]
 simp only[Oper.wp,h,Oper.upon];exact⟨w.heap.size,rfl,t.allocAr (cellsOf e xs) E F V7 Z v⟩
theorem Uo {T ty E:V9} {s j:Ty} {w:V2} (v:xG P T s) (z:s.desc = .slice E) (u:xG P E j) {b a k i:Nat} {f:Array V0} {r:V9} (y:w.heap[b]?=some (.cells f r (0,0))) {m:Nat} {x:V0} {p:V6 V0} (q:Src P j.size T x m p w)
  (h:k+m<=i) (A:a+i*j.size<=f.size):
  (Builtin.append_ #[T,T] ty #[.slice (some ⟨b,a,none⟩) k i,x]).run P w = .ok (.slice (some ⟨b,a,none⟩) (k+m) i) (w.setRow b (f.toList.take (a+k*j.size)++p++f.toList.drop (a+k*j.size+p.length)).toArray):=by
 have l:a+k*j.size+0+p.length<=f.size:=by
  rw[q.newsLen];have:=Nat.mul_le_mul_right j.size h;rw[zAt]at this;omega
 have o:=run_storeCells_at P b (a+k*j.size) r p 0 f w y l q.one;simp only[Nat.add_zero]at o;have t:=v.run_und w;rw[z]at t;simp[Builtin.append_,t,u.run_size w,q.len,h,q.cells,gQ,o]
theorem Um {T ty E:V9} {q f:Ty} {w:V2} (u:xG P T q) (y:q.desc = .slice E) (t:xG P E f) {base:V1 Addr} {k a:Nat} {b:V6 V0}
  (i:(Builtin.firstCells f.size k (.slice base k a)).run P w.drew = .ok b.toArray w.drew) {m:Nat} {x:V0} {p:V6 V0} (z:Src P f.size T x m p w) (r:a<k+m) (v:(k+m)*f.bytes<=140737488355328) (s:k+m<=140737488355328):
  (Builtin.append_ #[T,T] ty #[.slice base k a,x]).run P w = .ok (.slice (some ⟨w.heap.size,0,none⟩) (k+m) (grownCap w (k+m) a E))
   (w.drew.alloc (.cells ((b++p).toArray++Builtin.zeroCells f.zero.cells (grownCap w (k+m) a E - (k+m))) E)):=by
 have⟨B,o,j,l,A⟩:=t.info;have h:=growslice_fits (need:=k+m) (old:=a) (bytes:=f.bytes) r v;exact run_append_grow_src w T T ty E B f.zero (by rw[u.und,y]) o A base k a b (by rw[j];exact i) x m p (by rw[j];exact z) r V7 (by rw[l];exact h)
theorem Hz.src [eB P] {w:V2} {F:Nat->Prop} {v:V0} {i:V6 α} {T E:V9} {s t:Nat} {z:V0} (h:Hz e w F v i) (k:eB.tab P T=some ⟨.slice E,s,t,z⟩):Src P e.sz T v i.length (cellsOf e i) w:=by
 have⟨_,o,h⟩:=h;have f:∀u∈cellsOf e i,u.oneCell'=true:=λu a=>uR (zA2.1 o u a);rcases h with⟨rfl,rfl⟩|⟨b,r,l,x,m,rfl,_,p,A,y,q⟩
 .exact Src.ofNil w (eB.ok k).und 0
 .refine Src.ofSlice w (eB.ok k).und _ _ _ _ (gH e i) (λj u a=>?_) f;rw[<-q,zAn]at a;split at a
  .rw[zAq]at a;rw[gQ];simp[World.cell?,p];simpa using a
  .cases a
theorem Hz.old [eB P] {w:V2} {F:Nat->Prop} {v:V0} {f:V6 α} (h:Hz e w F v f):∃base a,v = .slice base f.length a/\(Builtin.firstCells e.sz f.length v).run P w.drew = .ok (cellsOf e f).toArray w.drew:=by
 have⟨_,r,h⟩:=h;rcases h with⟨rfl,rfl⟩|⟨b,q,a,m,k,rfl,_,o,t,s,p⟩
 .exact⟨none,0,rfl,run_firstCells_none w.drew e.sz 0 0 0⟩
 .refine⟨_,a,rfl,run_firstCells_some w.drew e.sz f.length _ _ _ _ (gH e f) (λj u i=>?_)⟩
  rw[<-p,zAn]at i;split at i
  .rw[zAq]at i;rw[gQ];have l:w.drew.heap[b]?=some (.cells k m (0,0)):=o;simp[World.cell?,l];simpa using i
  .cases i
theorem YB (f:List V0) (b a:Nat) (i:List V0) (h:b+a+i.length<=f.length):
  ((f.take (b+a)++i++f.drop (b+a+i.length)).drop b).take (a+i.length)=(f.drop b).take a++i:=by
 have j:b+a - b=a:=by omega
 have k:((f.drop b).take a).length=a:=by simp;omega
 rw[zAr,List.drop_append_of_le_length (by simp;omega),List.drop_take,j,List.take_append,k,List.take_of_length_le (by omega)];have l:a+i.length - a=i.length:=by omega
 rw[l,List.take_append_of_le_length (zAf _),List.take_of_length_le (zAf _)]
structure aiE (w w':World) (F F':Nat->Prop):Prop where
 os:w'.os=w.os
 tape:w'.tape=w.tape
 out:w'.output=w.output
 size:w.heap.size<=w'.heap.size
 same:∀k,k<w.heap.size->¬F k->w'.heap[k]?=w.heap[k]?
 sub:∀k,F' k->F k\/(w.heap.size<=k/\k<w'.heap.size)
theorem Hz.append [eB P] {w:V2} {F:Nat->Prop} {v x:V0} {xs ys:V6 α} {T E ty:V9} {s1 s2 S:Nat} {z V:V0} {W:TypeDesc} (j:Hz e w F v xs) (y:Src P e.sz T x ys.length (cellsOf e ys) w) (A:(cellsOf e ys).all one=true)
  (G:eB.tab P T=some ⟨.slice E,s1,s2,z⟩) (B:eB.tab P E=some ⟨W,e.sz,S,V⟩) (X:(xs.length+ys.length)*S<=140737488355328) (K:xs.length+ys.length<=140737488355328) (hz:V.cells.size=e.sz):
  ∃U w' F',(Builtin.append_ #[T,T] ty #[v,x]).run P w = .ok U w'/\Hz e w' F' U (xs++ys)/\aiE w w' F F':=by
 have l:(cellsOf e (xs++ys)).all one=true:=by
  rw[xJ,List.all_append,j.2.1,A];rfl
 obtain⟨base,f,rfl,t⟩:=Hz.old (P:=P) j;by_cases a:xs.length+ys.length<=f
 .have C:=j;have⟨_,_,hh⟩:=j;rcases hh with⟨O,rfl⟩|⟨b,p,R,T',i,O,q,r,u,Y,ht⟩
  .cases O;have hy:ys=[]:=zAl (by simpa using a);subst hy;refine⟨.slice none 0 0,w,F,?_,C,⟨rfl,rfl,rfl,zAf _,λ_ _ _=>rfl,λ_ h=>.inl h⟩⟩
   have hu:=(eB.ok G).run_und w;have m:=y.len w;have o:=y.cells;simp only[List.length_nil]at m o;have H:cellsOf e ([]:V6 α)=[]:=rfl;rw[H]at o;simp[Builtin.append_,hu,(eB.ok B).run_size w,m,o]
  .cases O;have N:=Uo (P:=P) (ty:=ty) (eB.ok G) Z (eB.ok B) r y a Y;have s:p+xs.length*e.sz+(cellsOf e ys).length<=i.toList.length:=by
    rw[gH];have:=Nat.mul_le_mul_right e.sz a;rw[zAt]at this;simp;omega
   refine⟨_,_,F,N,⟨by simpa using K,l,.inr ⟨b,p,f,T',_,V8,q,setRow_heap w b _ _ T' _ r,by simpa using a,?_,?_⟩⟩,⟨rfl,rfl,rfl,V8,λk _ J=>setRow_other w b k _ (λe=>J (by subst e;exact q)),λ_ h=>.inl h⟩⟩
   .simp only[List.size_toArray,zA0,zB2,List.length_drop];have:i.size=i.toList.length:=V8
    omega
   .have:=YB i.toList p (xs.length*e.sz) (cellsOf e ys) s;rw[zA0,zAt,<-gH e ys,xJ,<-ht];exact this
 .have N:=Um (P:=P) (ty:=ty) (eB.ok G) Z (eB.ok B) t y V7 X K;have I:=grownCap_ge w (xs.length+ys.length) f E;refine⟨_,_,λk=>k=w.heap.size,N,⟨by simpa using K,l,.inr ⟨w.heap.size,0,grownCap w (xs.length+ys.length) f E,E,_,V8,rfl,heap_alloc_new w.drew _,by simpa using I,?_,?_⟩⟩,
   ⟨rfl,rfl,rfl,V8,λk u _=>Below.heap_alloc w.drew _ k u,λk u=>.inr ⟨V7,by subst u;simp⟩⟩⟩
  .simp only[zB3,Array.size_append,List.size_toArray,zA0,gH,size_zeroCells,hz];rw[<-zAt,<-zAt];exact Nat.mul_le_mul_right _ V7
  .simp only[List.drop_zero,Array.toList_append,zA0];rw[<-xJ,List.take_append_of_le_length (by rw[gH];simp),List.take_of_length_le (by rw[gH];simp)]
theorem St.append [eB P] {w:V2} (t:St c M L w) {i:Nat} {v x:V0} {xs ys:V6 α} {T E ty:V9} {F G l:Nat} {z m:V0} {o:TypeDesc} (k:M[i]?=some (Ar e v xs)) (B:Src P e.sz T x ys.length (cellsOf e ys) w) (f:(cellsOf e ys).all one=true)
  (r:eB.tab P T=some ⟨.slice E,F,G,z⟩) (q:eB.tab P E=some ⟨o,e.sz,l,m⟩) (s:(xs.length+ys.length)*l<=140737488355328) (u:xs.length+ys.length<=140737488355328) (C:m.cells.size=e.sz):
  ∃b w',(Builtin.append_ #[T,T] ty #[v,x]).run P w = .ok b w'/\St c (M.set i (Ar e b (xs++ys))) L w':=by
 have H:=t;have⟨y,I,j,h⟩:=H;have⟨b,w',F',A,p,a⟩:=Hz.append (ty:=ty) (j.res i _ k) B f r q s u C;refine⟨b,w',A,?_⟩
 exact Nw y j h k a.os a.tape a.out a.size a.same p a.sub
end
section
variable {P:Program} {rd:V1 Nat} {c:zW} {n:Sz} {σ:Fr} {M L:V6 bF} {Q:Exit->Act->V2->Prop} {ops:Array V5} {rest:V6 V5}
variable {d:V1 Tmp} {D:Nat} {ty:V9} {pos:String} {aft:Array Edge} {g:V1 (Nat×V4)}
variable {α:Type} {e:iW α}
theorem aO.alloc [eB P] {T:V9} {h:Ty} {cs:V6 V0} (i:eB.tab P T=some h) (j:h.zero.cells=cs.toArray):
  aO P c n σ M L ⟨d,.alloc T,ty,pos,aft,g⟩ (λb:Nat=>.pointer (some ⟨b,0,none⟩)) (λb=>bU b cs T::M) (λ_=>L):=λa w s t=>by
 have f:(execOp a.eval ⟨d,.alloc T,ty,pos,aft,g⟩).run P w = .ok (.value (.pointer (some ⟨w.heap.size,0,none⟩))) (w.alloc (.cells cs.toArray T)):=by
  simp[execOp,Mt w (eB.ok i),j]
 simp only[Oper.wp,f,Oper.upon];exact⟨w.heap.size,rfl,t.alloc cs T⟩
theorem aO.box {T:V9} {x:V3} {v:V0} {cs:V6 V0} (h:ev σ x=some v) (i:v.cells=cs.toArray):
  aO P c n σ M L ⟨d,.box T x,ty,pos,aft,g⟩ (λb:Nat=>.pointer (some ⟨b,0,none⟩)) (λb=>bU b cs T::M) (λ_=>L):=λa w s t=>by
 have f:(execOp a.eval ⟨d,.box T x,ty,pos,aft,g⟩).run P w = .ok (.value (.pointer (some ⟨w.heap.size,0,none⟩))) (w.alloc (.cells cs.toArray T)):=by
  simp[execOp,s.eval h,Instr.box,newVar,newRow,i]
 simp only[Oper.wp,f,Oper.upon];exact⟨w.heap.size,rfl,t.alloc cs T⟩
theorem HY [eB P] {x y:V3} {T:V9} {b f:V0} {a:Act} (s:Kl n σ a) (h:ev σ x=some b) (i:ev σ y=some f) (w:V2):
  (execOp a.eval ⟨d,.call ⟨.builtin .append,#[x,y],#[T,T]⟩,ty,pos,aft,g⟩).run P w=((Builtin.append_ #[T,T] ty #[b,f]).run P w).andThen λv j=>.ok (.value v) j:=by
 simp[execOp,resolve,invoke,builtin,s.eval h,s.eval i]
theorem LG.src [eB P] {U:Type} {r:iN U} {w:V2} {S:Nat->Prop} {v:V0} {F:V6 U} {T E:V9} {s1 s2:Nat} {z:V0} (h:LG r w S v F) (N:eB.tab P T=some ⟨.slice E,s1,s2,z⟩) (hr:∀{w S l x},r.R w S l x->l.all one=true):
  ∃cs,Src P r.sz T v F.length cs w/\cs.all one=true/\cs.length=F.length*r.sz/\∀i x,F[i]?=some x->∃l,r.R w S l x/\∀j u,l[j]?=some u->cs[i*r.sz+j]?=some u:=by
 obtain⟨a,B,rfl,W,h⟩:=h;rcases h with rfl|⟨b,q,rfl,_,h⟩
 .cases a with
  |none=>
   refine⟨[],?_,rfl,V8,λi x m=>by simp at m⟩
   exact Src.ofNil w (eB.ok N).und B
  |some a=>
   refine⟨[],?_,rfl,V8,λi x m=>by simp at m⟩
   exact Src.ofSlice w (eB.ok N).und a 0 B [] V8 (λj u f=>by simp at f) (λu f=>by simp at f)
 ·
  have O:∀(A:V6 U) (k:Nat),(∀i x,A[i]?=some x->∃l,(∀j e,l[j]?=some e->w.cell? ⟨b,q+((k+i)*r.sz+j),none⟩=some e)/\r.R w S l x)->
    ∃cs:V6 V0,cs.all one=true/\cs.length=A.length*r.sz/\(∀j u,cs[j]?=some u->w.cell? ⟨b,q+(k*r.sz+j),none⟩=some u)/\∀i x,A[i]?=some x->∃l,r.R w S l x/\∀j u,l[j]?=some u->cs[i*r.sz+j]?=some u:=by
   intro A
   induction A with
   |nil=>intro k _;exact⟨[],rfl,V8,λj u f=>by simp at f,λi x m=>by simp at m⟩
   | cons y A ih =>
    intro k V;have⟨l,t,o⟩:=V 0 y Z;have⟨cs,G,H,J,K⟩:=ih (k+1) (λi x m=>by
     have⟨s,C,p⟩:=V (i+1) x (by simpa using m);refine⟨s,λj u f=>?_,p⟩
     have:=C j u f;rwa[show k+(i+1)=k+1+i from V7]at this)
    have I:=r.len o;refine⟨l++cs,by rw[List.all_append,hr o,G];rfl,by rw[zA0,H,I,zA3,zAt];omega,?_,?_⟩
    .intro j u f;by_cases Y:j<l.length
     .rw[zAe Y]at f;have:=t j u f;rwa[Nat.add_zero]at this
     .rw[zA9 V7]at f;have:=J _ u f;rw[zAt,I]at this;rwa[show q+(k*r.sz+1*r.sz+(j - r.sz))=q+(k*r.sz+j)from V7]at this
    .intro i x m;cases i with
     |zero=>
      simp at m;subst m;refine⟨l,o,λj u f=>?_⟩
      rw[zAe (by have:=bM f;omega)];simpa using f
     |succ i=>
      have⟨s,p,X⟩:=K i x (by simpa using m);refine⟨s,p,λj u f=>?_⟩
      rw[zA9 (by rw[I,zAt];omega),I];rw[show(i+1)*r.sz+j - r.sz=i*r.sz+j from by rw[zAt];omega];exact X j u f
  have⟨cs,G,H,J,K⟩:=O F 0 (λi x m=>by
   have⟨l,t,o⟩:=h i x m;exact⟨l,λj u f=>by rw[zB3];exact t j u f,o⟩)
  refine⟨cs,?_,G,H,K⟩
  refine Src.ofSlice w (eB.ok N).und _ _ _ _ H (λj u f=>?_) (λu f=>uR (zA2.1 G u f));rw[gQ];have:=J j u f;rwa[Nat.zero_mul,zB3]at this
def iW.Fits (e:iW α) (r:iN α):Prop:=r.sz=e.sz/\(∀{w S es x},r.R w S es x->es=e.enc x)/\(∀{w S x},r.R w S (e.enc x) x)/\∀x,(e.enc x).all one=true
theorem KI (k:IntKind):(iW.int k).Fits (iN.int k):=⟨rfl,λh=>h,rfl,λ_=>rfl⟩
theorem Pz:iW.bool.Fits iN.bool:=⟨rfl,λh=>h,rfl,λ_=>rfl⟩
theorem TF {f:V6 V0} {a:V6 α} (v:f.length=a.length*e.sz) (h:∀i x,a[i]?=some x->∀j u,(e.enc x)[j]?=some u->f[i*e.sz+j]?=some u):f=cellsOf e a:=by
 apply List.ext_getElem?;intro k;by_cases t:k<a.length*e.sz
 .have b:=e.pos;have s:k / e.sz<a.length:=Nat.div_lt_of_lt_mul (by rw[Nat.mul_comm];exact t);have w:k%e.sz<e.sz:=Nat.mod_lt _ b;have q:a[k / e.sz]?=some (a[k / e.sz]):=zA1 s;have o:=e.len a[k / e.sz];have p:(e.enc a[k / e.sz])[k%e.sz]?=some ((e.enc a[k / e.sz])[k%e.sz]'V7):=zA1 _;have r:k / e.sz*e.sz+k%e.sz=k:=by rw[Nat.mul_comm];exact Nat.div_add_mod k e.sz
  have l:=h _ _ q _ _ p;have m:=Bp e a _ _ q _ _ p;rw[r]at l m;rw[l,m]
 .rw[zAs V7,zAs (by rw[gH];omega)]
theorem Tj [eB P] {r:iN α} (b:e.Fits r) {w:V2} {S:Nat->Prop} {v:V0} {f:V6 α} {T E:V9} {G H:Nat} {z:V0} (h:LG r w S v f) (q:eB.tab P T=some ⟨.slice E,G,H,z⟩):
  Src P e.sz T v f.length (cellsOf e f) w/\(cellsOf e f).all one=true:=by
 have⟨a,l,_,p⟩:=b;have⟨m,B,A,y,s⟩:=LG.src h q (λ{w S o x} hr=>by rw[l hr];exact p x);have:m=cellsOf e f:=TF (by rw[y,a]) (λi x F j u C=>by
  have⟨o,k,t⟩:=s i x F;rw[<-a];exact t j u (by rw[l k];exact C))
 subst this;rw[<-a];exact⟨B,A⟩
theorem Hz.sl {r:iN α} (a:e.Fits r) {w:V2} {F:Nat->Prop} {v:V0} {l:V6 α} (h:Hz e w F v l):LG r w F v l:=by
 have⟨f,_,p,_⟩:=a;have o:=h;have⟨C,_,s⟩:=h;rcases s with⟨rfl,rfl⟩|⟨b,k,cap,T,m,rfl,q,z,B,A,E⟩
 .exact⟨none,0,rfl,V8,.inl Z⟩
 .refine⟨_,cap,rfl,V7,.inr ⟨b,k,rfl,q,λi x y=>⟨e.enc x,λj u t=>?_,p⟩⟩⟩
  have:=Hz.cell o y t;simp only[PE,gQ]at this;rw[f];exact this
def sR {α:Type} (e:iW α) (vs:V6 V0) (xss:V6 (V6 α)):bF where
 p w F:=vs.length=xss.length/\∃G:Nat->Nat->Prop,(∀i v xs,vs[i]?=some v->xss[i]?=some xs->Hz e w (G i) v xs)/\(∀i k,G i k->F k)/\∀i j k,G i k->G j k->i=j
 mono:=by
  rintro w x S u ⟨r,G,l,f,m⟩ h;refine⟨r,λi k=>G i k/\k<w.heap.size,λi v xs s t=>(Ar e v xs).mono (l i v xs s t) (λk a b=>⟨⟨a,b⟩,(h k (f i k a) b).2⟩),λi k a=>(h k (f i k a.1) a.2).1,λi j k o q=>m i j k o.1 q.1⟩
theorem sR.row {w:V2} {F:Nat->Prop} {vs:V6 V0} {a:V6 (V6 α)} (h:(sR e vs a).p w F) {k:Int} (f:0<=k) (i:k<vs.length):∃F',Hz e w F' (at' vs k) (at' a k):=by
 have⟨j,G,b,_,_⟩:=h;exact⟨_,b k.toNat _ _ (jI f i) (jI f V7)⟩
theorem St.merge {w:V2} (t:St c M L w) (i j:Nat) {J K G:bF} (E:i≠j) (H:M[i]?=some J) (I:M[j]?=some K)
  (v:∀{w F1 F2},J.p w F1->K.p w F2->(∀k,F1 k->¬F2 k)->G.p w (λk=>F1 k\/F2 k)):St c ((M.set i G).eraseIdx j) L w:=by
 have⟨X,F,o,U⟩:=t;have V:=bM H;have W:=bM I;have T:=v (o.res i _ H) (o.res j _ I) (λk R S=>E (o.dis _ _ k R S));let l:Nat->Nat:=λq=>if q<j then q else q+1;refine⟨X,λq b=>q+1<M.length/\(F (l q) b\/(l q=i/\F j b)),⟨?_,?_,?_⟩,λf C=>?_⟩
 .intro q m v;have Y:=bM v;rw[List.length_eraseIdx_of_lt (by simpa using W),zAb]at Y;have x:q+1<M.length:=V7
  have u:(M.set i G)[l q]?=some m:=by
   rw[List.getElem?_eraseIdx]at v;simp only[l];split
   .rename_i B;rwa[if_pos B]at v
   .rename_i B;rwa[if_neg B]at v
  by_cases A:l q=i
  .rw[A,zAh V]at u;cases u;refine bF.same T (λb a=>⟨x,?_⟩) (λ_ _ _=>rfl);rcases a with a|a
   .exact .inl (by rw[A];exact a)
   .exact .inr ⟨A,a⟩
  .rw[zAu (Ne.symm A)]at u;exact bF.same (o.res (l q) m u) (λb a=>⟨x,.inl a⟩) (λ_ _ _=>rfl)
 .rintro q b ⟨_,a|⟨_,a⟩⟩
  .exact o.rng _ b a
  .exact o.rng _ b a
 .have z:∀q,l q≠j:=by intro q;simp only[l];split<;>omega
  have y:∀q r,l q=l r->q=r:=by intro q r;simp only[l];split<;>split<;>omega
  rintro q r b ⟨_,a|⟨N,a⟩⟩ ⟨_,s|⟨O,s⟩⟩
  .exact y _ _ (o.dis _ _ b a s)
  .exact absurd (o.dis _ _ b a s) (z q)
  .exact absurd (o.dis _ _ b s a) (z r)
  .exact y _ _ (N.trans O.symm)
 .exact bF.same (U f C) (λb a=>⟨a.1,by
   rintro q ⟨_,h|⟨_,h⟩⟩
   .exact a.2 _ h
   .exact a.2 _ h⟩) (λ_ _ _=>rfl)
theorem ZA (i j:Nat) {u:V0} {k:Int} {z:V6 V0} {v:V6 (V6 α)} {F:V6 α} {G:Act->V2->Prop} (C:Nat.beq i j=false) (U:M[i]?=some (sR e z v)) (V:M[j]?=some (Ar e u F)) (X:0<=k) (Y:k<z.length)
  (h:J c n σ ((M.set i (sR e (z.set k.toNat u) (v.set k.toNat F))).eraseIdx j) L G):J c n σ M L G:=λa w s t=>
 h a w s (t.merge i j (λe=>by subst e;simp at C) U V (by
  rintro w W O ⟨p,G,R,B,S⟩ T K;have E:k.toNat<z.length:=V7
  refine⟨by simp[p],λr b=>(r=k.toNat/\O b)\/(r≠k.toNat/\G r b),?_,?_,?_⟩
  .intro r N q l m;by_cases A:r=k.toNat
   .subst A;rw[zAh E]at l;rw[zAh V7]at m;cases l;cases m;exact bF.same (f:=Ar e u F) T (λb o=>.inl ⟨rfl,o⟩) (λ_ _ _=>rfl)
   .rw[zAu (Ne.symm A)]at l m;exact bF.same (f:=Ar e N q) (R r N q l m) (λb o=>.inr ⟨A,o⟩) (λ_ _ _=>rfl)
  .rintro r b (⟨_,o⟩|⟨_,o⟩)
   .exact .inr o
   .exact .inl (B r b o)
  .rintro r1 r2 b (⟨H,x⟩|⟨H,x⟩) (⟨I,y⟩|⟨I,y⟩)
   .rw[H,I]
   .exact absurd x (K b (B _ b y))
   .exact absurd y (K b (B _ b x))
   .exact S _ _ b x y))
theorem aew {r:iN α} (h:e.Fits r) {v:V0} {f:V6 V0} {a:V6 (V6 α)} {w:V2} {z A:Nat->Prop} (B:(Ar eD v f).p w z) (K:(sR e f a).p w A):LG (iN.sl r) w (λk=>z k\/A k) v (f.zip a):=by
 have⟨i,G,I,J,_⟩:=K;have F:(f.zip a).length=f.length:=by simp[i]
 have o:=B;have⟨V,_,N⟩:=B;rcases N with⟨rfl,rfl⟩|⟨b,y,m,T,H,rfl,s,S,C,U,W⟩
 .exact⟨none,0,rfl,V8,.inl Z⟩
 .refine⟨_,m,by rw[F],by rw[F];omega,.inr ⟨b,y,rfl,.inl s,λq x l=>?_⟩⟩
  have E:f[q]?=some x.1:=by rw[List.getElem?_zip_eq_some]at l;exact l.1
  have t:a[q]?=some x.2:=by rw[List.getElem?_zip_eq_some]at l;exact l.2
  refine⟨[x.1],λR u O=>?_,rfl,?_⟩
  .have:=Hz.cell o E (j:=R) (u:=u) O;simp only[PE,gQ]at this;exact this
  .exact(Sl r x.1 x.2).mono (Hz.sl h (I q _ _ E t)) (λk C _=>⟨.inr (J _ k C),rfl⟩)
def afQ (p:Prop):bF:=⟨λ_ _=>p,λh _=>h⟩
theorem afO {p:Prop} {G:Act->V2->Prop} (b:afQ p∈L) (h:p->J c n σ M L G):J c n σ M L G:=λa w s t=>h (by have⟨_,f⟩:=t.fact b;exact f) a w s t
end
theorem mixedOrders:Go.Proofs.Tryz.prog.follows .mixedOrders=true:=by kernel_rfl
section
variable {P:Program} {rd:V1 Nat} {c:zW} {n:Sz} {σ:Fr} {M L:V6 bF} {Q:Exit->Act->V2->Prop} {ops:Array V5} {rest:V6 V5}
theorem Fg {d:V1 Tmp} {j:V9} {h:String} {e:Array Edge} {g:V1 (Nat×V4)} {T:V9} {ps:V6 (Nat×V3)} {vs:V6 (Nat×V0)} {r:V0} (b:ps.map (λp=>(p.1,ev σ p.2))=vs.map (λp=>(p.1,some p.2)))
  (i:∀w,(Instr.build T vs.toArray).run P w = .ok r w):Y P c n σ M L ⟨d,.build T ps.toArray,j,h,e,g⟩ r:=λa w s _=>by
 have f:ps.map (λp=>(p.1,a.eval p.2))=vs:=by
  clear i
  induction ps generalizing vs with
  |nil=>cases vs<;>simp_all
  | cons p ps ih =>
   cases vs with
   |nil=>simp at b
   |cons q vs=>
    simp only[List.map_cons,List.cons.injEq,Prod.mk.injEq]at b;simp only[List.map_cons,s.eval b.1.2,b.1.1,ih b.2]
 simp only[execOp,List.map_toArray,f];simp[i w]
theorem ZR {d:V1 Tmp} {k:V9} {e:String} {b:Array Edge} {g:V1 (Nat×V4)} {T:V9} {a:Nat} {h:V3} {f r:V0} (i:ev σ h=some f) (j:∀w,(Instr.build T ([(a,f)]:V6 (Nat×V0)).toArray).run P w = .ok r w):Y P c n σ M L ⟨d,.build T #[(a,h)],k,e,b,g⟩ r:=
 Fg (ps:=[(a,h)]) (vs:=[(a,f)]) (by simp[i]) j
theorem nP {d:V1 Tmp} {p:V9} {f:String} {e:Array Edge} {g:V1 (Nat×V4)} {T:V9} {a b:Nat} {j k:V3} {h i r:V0} (l:ev σ j=some h) (m:ev σ k=some i) (o:∀w,(Instr.build T ([(a,h),(b,i)]:V6 (Nat×V0)).toArray).run P w = .ok r w):Y P c n σ M L ⟨d,.build T #[(a,j),(b,k)],p,f,e,g⟩ r:=
 Fg (ps:=[(a,j),(b,k)]) (vs:=[(a,h),(b,i)]) (by simp[l,m]) o
theorem BF {d:V1 Tmp} {u:V9} {h:String} {f:Array Edge} {g:V1 (Nat×V4)} {T:V9} {a b e:Nat} {l m o:V3} {i j k r:V0} (p:ev σ l=some i) (q:ev σ m=some j) (s:ev σ o=some k) (t:∀w,(Instr.build T ([(a,i),(b,j),(e,k)]:V6 (Nat×V0)).toArray).run P w = .ok r w):Y P c n σ M L ⟨d,.build T #[(a,l),(b,m),(e,o)],u,h,f,g⟩ r:=
 Fg (ps:=[(a,l),(b,m),(e,o)]) (vs:=[(a,i),(b,j),(e,k)]) (by simp[p,q,s]) t
theorem afV {d:V1 Tmp} {z:V9} {i:String} {h:Array Edge} {g:V1 (Nat×V4)} {T:V9} {a b e f:Nat} {o p q s:V3} {j k l m r:V0} (t:ev σ o=some j) (u:ev σ p=some k) (v:ev σ q=some l) (x:ev σ s=some m) (y:∀w,(Instr.build T ([(a,j),(b,k),(e,l),(f,m)]:V6 (Nat×V0)).toArray).run P w = .ok r w):Y P c n σ M L ⟨d,.build T #[(a,o),(b,p),(e,q),(f,s)],z,i,h,g⟩ r:=
 Fg (ps:=[(a,o),(b,p),(e,q),(f,s)]) (vs:=[(a,j),(b,k),(e,l),(f,m)]) (by simp[t,u,v,x]) y
theorem dD (cs:Array V0):(Value.agg cs).cells=cs:=rfl
end
section
variable {P:Program} {rd:V1 Nat} {c:zW} {n:Sz} {σ:Fr} {M L:V6 bF} {Q:Exit->Act->V2->Prop} {l:V6 V5} {m:V6 Nat} {k0:Nat} {H Bs:V6 (Nat×V6 bF×V6 bF)} {rest:V6 Nat}
theorem Bg {e:Array V5} {rest:V6 V5} {d g:Nat} {r:Op} {u:V9} {i:String} {f:Array Edge} {j:Nat} {b:V4}
  (p:(e[j]?).bind (·.dst)=some g:=by exact rfl) (o:lk σ g=some undef:=by exact rfl) (k:Nat.blt d n.sz=true:=by exact rfl) (h:J c n ((d,undef)::σ) M L (wpList P e Q rest)):
  J c n σ M L (wpList P e Q (⟨some d,r,u,i,f,some (j,b)⟩::rest)):=λa w s t=>by
 have q:yielded e a.tmps j=none:=by
  unfold yielded;rw[p,Option.bind_some,s.slot g _ o];rfl
 unfold wpList;rw[if_neg (by simp[Region.wanted,q])];exact h _ w (s.put d undef k) t
theorem JR.open {r:V6 Nat} (e:List.range l.length=r) (h:JR c n σ M L H Bs (RW P l.toArray Q (before m) (eK l) k0 r)):JR c n σ M L H Bs (RW P l.toArray Q (before m) (eK l) k0 (List.range l.length)):=by rw[e];exact h
end
theorem Vl {c:Array V5} {x y:V5} (h:x.apart c y=true):y.apart c x=true:=by
 have⟨g,i,j⟩:=Oper.apart_spec h;unfold Oper.apart;rw[zA5];constructor
 .cases f:y.dst with
  |none=>rfl
  |some d=>
   have a:=j d f;have b:x.dst≠some d:=λe=>i d e (by rw[f]);simp[a,b]
 .cases k:x.dst with
  |none=>rfl
  |some d=>simp[g d k]
def agV (l:V6 V5) (m:V6 Nat) (a:Nat):V4:=
  (List.range l.length).all λi=>match l[i]? with
    |none=>false
    | some o =>
      (zY o).all (λe=>Nat.blt e i&&before m i e) &&
      (List.range l.length).all (λk=> !before m i k||(Nat.blt k i&&(zY o).any (λe=>Nat.beq e k||before m e k))) &&
      !Hl o.op &&
      (if Nat.ble a i then(List.range i).all (λx=>before m i x)
       else(List.range i).all (λx=>before m i x||(match l[x]? with|none=>false|some b=>b.apart l.toArray o)))
structure acm (l:List Oper) (m:List Nat) (k0:Nat):Prop where
 edge:∀(i:Nat) (o:Oper),l[i]?=some o->∀e∈zY o,e<i/\before m i e=true
 trans:∀(i:Nat) (o:Oper),l[i]?=some o->∀k,before m i k=true->k<l.length->k<i/\∃e∈zY o,e=k\/before m e k=true
 sel:∀(i:Nat) (o:Oper),l[i]?=some o->∀cs b,o.op ≠ .select cs b
 tail:∀i x,i<l.length->k0<=i->x<i->before m i x=true
 ind:∀(i x:Nat) (oi ox:Oper),l[i]?=some oi->l[x]?=some ox->i<k0->x<i->before m i x=false->ox.apart l.toArray oi=true
theorem Yx {l:V6 V5} {m:V6 Nat} {q:Nat} (h:agV l m q=true):acm l m q:=by
  have a:∀(i:Nat) (o:V5),l[i]?=some o->
      ((zY o).all (λe=>Nat.blt e i&&before m i e)=true)/\
      ((List.range l.length).all (λk=> !before m i k||(Nat.blt k i&&(zY o).any (λe=>Nat.beq e k||before m e k)))=true)/\Hl o.op=false/\
      ((if Nat.ble q i then(List.range i).all (λx=>before m i x)
       else(List.range i).all (λx=>before m i x||(match l[x]? with|none=>false|some r=>r.apart l.toArray o)))=true):=by
    intro i o c;have:=zA2.1 h i (zAg.2 (bM c));simp only[c,zA5,zB4]at this;exact⟨this.1.1.1,this.1.1.2,this.1.2,this.2⟩
  refine⟨?_,?_,?_,?_,?_⟩
  · intro i o c e j;have:=zA2.1 (a i o c).1 e j;simp only[zA5,zAp]at this;exact this
  · intro i o c k g d;have:=zA2.1 (a i o c).2.1 k (zAg.2 d);simp only[g,Bool.not_true,Bool.false_or,zA5,zAp,List.any_eq_true,Bool.or_eq_true]at this;have⟨s,e,j,f⟩:=this;refine⟨s,e,j,?_⟩
    rcases f with f|f
    · exact .inl (zA4 f)
    · exact .inr f
  · intro i o c v b e;have:=(a i o c).2.2.1;rw[e]at this;cases this
  · intro i x n g p;obtain⟨o,c⟩:∃o,l[i]?=some o:=⟨_,zA1 n⟩
    have:=(a i o c).2.2.2;rw[if_pos (by simpa using g)]at this;exact zA2.1 this x (zAg.2 p)
  · intro i x u r n p g d t;have:=(a i u n).2.2.2;rw[if_neg (by simpa using g)]at this;have:=zA2.1 this x (zAg.2 d);simp only[t,Bool.false_or,p]at this;exact this
def Lin (l:V6 V5):Array V4->V6 Nat->Prop
 |listed,[]=>∀i,i<l.length->listed.getD i true=true
 |listed,i::s=>i∈Region.ready .any l.toArray listed/\Lin l (listed.setIfInBounds i true) s
def left (l:V6 V5) (a:Array V4):V6 Nat:=(List.range l.length).filter λi=> !a.getD i true
theorem mem_left {l:V6 V5} {a:Array V4} {i:Nat}:i∈left l a↔i<l.length/\a.getD i true=false:=by
 unfold left;rw[List.mem_filter,zAg];constructor
 .rintro⟨b,c⟩;exact⟨b,by simpa using c⟩
 .rintro⟨b,c⟩;exact⟨b,by rw[c];rfl⟩
theorem abc {l:V6 V5} {a:Array V4} (c:a.size=l.length) {i:Nat} (d:i∈left l a):(left l (a.setIfInBounds i true)).length<(left l a).length:=by
 have b:=(mem_left.1 d).1;have:left l (a.setIfInBounds i true)=(left l a).filter (λj=> !(j==i)):=by
  unfold left;rw[List.filter_filter];apply List.filter_congr;intro j f;by_cases e:i=j
  .subst e;simp[c,b]
  .rw[getD_set_ne true e];have:(j==i)=false:=by simpa using λh=>e h.symm
   simp[this]
 rw[this];apply List.length_filter_lt_length_iff_exists.2;exact⟨i,d,V8⟩
theorem ahA {l:V6 V5} {m:V6 Nat} {A:Nat} (hc:acm l m A):∀(b t:Nat) (a:Array V4),(left l a).length<=b->a.size=l.length->Lin l a (Region.linearise.go .any l.toArray b t a []):=by
 intro b
 induction b with
 | zero =>
  intro t a k f;simp only[Region.linearise.go,List.reverse_nil,Lin];intro i g;cases h:a.getD i true with
  |true=>rfl
  |false=>
   have:=mem_left.2 ⟨g,h⟩;have c:left l a=[]:=zAl V7;rw[c]at this;simp at this
 | succ b ih =>
  intro t a k f;simp only[Region.linearise.go];change Lin l a (match (Region.ready .any l.toArray a)[t%(Region.ready .any l.toArray a).length]? with
   |some i=>Region.linearise.go .any l.toArray b (t / (Region.ready .any l.toArray a).length) (a.setIfInBounds i true) [i]
   |none=>[].reverse)
  cases g:(Region.ready .any l.toArray a)[t%(Region.ready .any l.toArray a).length]? with
  | none =>
   have c:Region.ready .any l.toArray a=[]:=by
    cases z:Region.ready .any l.toArray a with
    |nil=>rfl
    |cons x u=>
     rw[z]at g;have d:t%(x::u).length<(x::u).length:=Nat.mod_lt _ V8;simp at g;simp at d;omega
   simp only[List.reverse_nil,Lin];intro i
   induction i using Nat.strongRecOn with
   | _ i ihi =>
    intro d;cases h:a.getD i true with
    |true=>rfl
    | false =>
     exfalso;obtain⟨o,n⟩:∃o,l[i]?=some o:=⟨_,zA1 d⟩
     have:i∈Region.ready .any l.toArray a:=by
      refine mem_ready.2 ⟨h,o,by simpa using n,λe y w=>?_⟩;have p:e.on∈zY o:=zB5.2 ⟨e,List.mem_filter.2 ⟨by simpa using y,w⟩,rfl⟩;have q:=(hc.edge i o n e.on p).1;have s:=ihi e.on q V7;have:e.on<a.size:=V7
      simp[this]at s ⊢;exact s
     rw[c]at this;simp at this
  |some i=>
   simp only[];rw[linearise_go_acc,List.reverse_singleton,List.singleton_append];have j:=zAo g;refine⟨j,ih _ _ ?_ (by simp[f])⟩
   have⟨v,o,n,_⟩:=mem_ready.1 j;have r:i∈left l a:=mem_left.2 ⟨by have:=(zA8.1 n).1;simpa using this,v⟩;have:=abc f r;omega
section
variable {P:Program} {Q:Exit->Act->V2->Prop} {l:V6 V5} {m:V6 Nat} {k0:Nat}
theorem ZK (hc:acm l m k0):∀(s:V6 Nat) (L:V6 Nat) (c:Array V4) (a:Act) (w:V2) (H:V6 (Nat×V2)) (Bs:V6 (Nat×(V2->Prop))),
  Lin l c s->c.size=l.length->L.Nodup->L.Pairwise (λx i=>before m x i=false)->(∀i,i∈L↔i<l.length/\c.getD i true=false)->
  (∀j k,c.getD j false=true->before m j k=true->k<l.length->c.getD k false=true)->L.filter (eK l)=s.filter (eK l)->
  RW P l.toArray Q (before m) (eK l) k0 L a w H Bs->Px P l.toArray Q s a w:=by
 intro s
 induction s with
 | nil =>
  intro L c a w H Bs C ac ai ak n T K h;have hL:L=[]:=by
   cases L with
   |nil=>rfl
   |cons i L=>
    have:=(n i).1 zAd;rw[C i this.1]at this;cases this.2
  subst hL;exact h
 | cons i s ih =>
  intro L c a w H Bs C ac ai ak n T K h;have⟨hi,X⟩:=C;have⟨h0,o,aj,U⟩:=mem_ready.1 hi;have ho:l[i]?=some o:=by simpa using aj
  have Y:i<l.length:=bM ho;have aq:i∈L:=(n i).2 ⟨Y,h0⟩;obtain⟨p,L2,rfl⟩:=List.append_of_mem aq;have q:=List.nodup_append.1 ai;have M:i∉p:=λd=>(q.2.2 i d i zAd) Z;have ap:i∉L2:=(List.nodup_cons.1 q.2.1).1;have u:=List.pairwise_append.1 ak;have J:∀x∈p,before m x i=false:=λx d=>u.2.2 x d i zAd;have N:∀k,before m i k=true->k<l.length->c.getD k false=true:=by
   intro k hk ah;have⟨_,e,he,V⟩:=hc.trans i o ho k hk ah;obtain⟨ed,an,rfl⟩:=zB5.1 he;have⟨ae,af⟩:=List.mem_filter.1 an;have hl:=U ed (by simpa using ae) af;rcases V with rfl|V
   .exact hl
   .exact T _ _ hl V ah
  have aa:∀x∈p,before m i x=false:=by
   intro x d;cases hb:before m i x with
   |false=>rfl
   |true=>
    have t:=((n x).1 (by simp[d]))
    have:=N x hb t.1;have au:x<c.size:=V7
    simp[au]at this t;rw[this]at t;simp at t
  have D:eK l i=true->∀x∈p,eK l x=false:=by
   intro g x d;rw[List.filter_append,List.filter_cons_of_pos g,List.filter_cons_of_pos g]at K;cases ar:eK l x with
   |false=>rfl
   | true =>
    exfalso;have hm:x∈p.filter (eK l):=List.mem_filter.2 ⟨d,ar⟩;cases hL:p.filter (eK l)with
    |nil=>rw[hL]at hm;simp at hm
    |cons y ys=>
     rw[hL,List.cons_append]at K;have:y=i:=(List.cons.inj K).1;have hy:y∈p.filter (eK l):=by rw[hL];exact zAd
     rw[this]at hy;exact M (List.mem_filter.1 hy).1
  have ao:(p++L2).filter (eK l)=s.filter (eK l):=by
   rw[List.filter_append]at K ⊢;cases g:eK l i with
   |false=>rw[List.filter_cons_of_neg (by rw[g];simp),List.filter_cons_of_neg (by rw[g];simp)]at K;exact K
   |true=>
    have hn:p.filter (eK l)=[]:=List.filter_eq_nil_iff.2 (λx d=>by rw[D g x d];simp);rw[List.filter_cons_of_pos g,List.filter_cons_of_pos g,hn]at K;rw[hn];exact(List.cons.inj K).2
  have next:∀G I H' S,RW P l.toArray Q (before m) (eK l) k0 (p++L2) G I H' S->Px P l.toArray Q s G I:=by
   intro G I H' S hr;refine ih (p++L2) _ G I H' S X (by simp[ac]) ?_ ?_ ?_ ?_ ao hr
   .exact List.nodup_append.2 ⟨q.1,(List.nodup_cons.1 q.2.1).2,λx d y hy=>q.2.2 x d y (zAk _ hy)⟩
   .exact List.pairwise_append.2 ⟨u.1,(List.pairwise_cons.1 u.2.1).2,λx d y hy=>u.2.2 x d y (zAk _ hy)⟩
   .intro j;by_cases e:i=j
    .subst e;constructor
     .intro f;rcases zAx.1 f with f|f
      .exact absurd f M
      .exact absurd f ap
     .rintro⟨_,f⟩;simp[ac,Y]at f
    .rw[getD_set_ne true e];have:=n j;simp only[zAx,zAi]at this ⊢;constructor
     .intro f;exact this.1 (by rcases f with f|f;exact .inl f;exact .inr (.inr f))
     .intro f;rcases this.2 f with f|rfl|f
      .exact .inl f
      .exact absurd Z e
      .exact .inr f
   .intro j k f ag hk;by_cases e:i=j
    .subst e;exact getD_set_true (N k ag hk)
    .rw[getD_set_ne false e]at f;exact getD_set_true (T j k f ag hk)
  have E:l.toArray[i]?=some o:=aj;rw[Ww];have F:∀x∈p,x<l.length:=λx d=>((n x).1 (by simp[d])).1;by_cases hk:k0<=i
  .have ad:p=[]:=by
    cases p with
    |nil=>rfl
    |cons x p=>
     exfalso;have z:=aa x zAd;have A:=J x zAd;have d:=F x zAd;rcases Nat.lt_trichotomy x i with r|r|r
     .rw[hc.tail i x Y hk r]at z;cases z
     .exact M (by rw[<-r];exact zAd)
     .rw[hc.tail x i d V7 r]at A;cases A
   subst ad;simp only[List.nil_append,RW,E]at h;unfold wpOp;simp only[E];split
   .rename_i hw;rw[if_pos hw]at h;rcases h with⟨_,h|h⟩|⟨h,_⟩|⟨h,_⟩
    .exact .inl (Oper.wp_mono (λG I hr=>next G I _ _ hr) h)
    .exact .inr (Oper.rnd_mono (λG I hr=>next G I _ _ hr) h)
    .omega
    .omega
   .rename_i hw;rw[if_neg hw]at h;exact next _ _ _ _ h
  .have W:i<k0:=V7
   have O:∀x∈p,NZ l.toArray (before m) (eK l) x i/\x<k0:=by
    intro x d;have t:=F x d;obtain⟨ox,ab⟩:∃ox,l[x]?=some ox:=⟨_,zA1 t⟩
    have al:x<k0:=by
     rcases zAy x k0 with r|r
     .exact r
     .have:=J x d;rw[hc.tail x i t r V7]at this;cases this
    have am:ox.apart l.toArray o=true:=by
     rcases Nat.lt_trichotomy x i with r|r|r
     .exact hc.ind i x o ox ho ab W r (aa x d)
     .exact absurd (by rw[<-r];exact d) M
     .exact Vl (hc.ind x i ox o ab ho al r (J x d))
    refine⟨⟨aa x d,J x d,?_,?_⟩,al⟩
    .intro aw av z A;have e1:ox=aw:=by simpa [ab]using z
     have e2:o=av:=by simpa [ho]using A
     rw[<-e1,<-e2];exact am
    .cases g:eK l i with
     |false=>exact .inr Z
     |true=>exact .inl (D g x d)
   have R:∀(i:Nat) (o:V5),l.toArray[i]?=some o->∀cs b,o.op ≠ .select cs b:=λi o h=>hc.sel i o (by simpa using h);unfold wpOp;simp only[E];cases hl:eK l i with
   | false =>
    rcases JP R E W hl p a w H Bs O h with⟨z,A⟩|⟨z,v,B,⟨hb,_,hr⟩,A⟩
    .rw[z];exact next _ _ _ _ A
    .rw[z];exact .inl (by simp only[Oper.wp,hr w hb,Oper.upon];exact next _ _ _ _ A)
   | true =>
    rcases KM R E W hl p a w H Bs O h with⟨z,A⟩|⟨z,A⟩
    .rw[z];exact next _ _ _ _ A
    .rw[z];exact .inl (OM (pG (λG I hh=>next G I _ _ hh.2) A))
def Oz (x:Nat):V6 Nat->V6 (V6 Nat)
 | []=>[[x]]
 |y::ys=>(x::y::ys)::(Oz x ys).map (y::·)
def Hh:V6 Nat->V6 (V6 Nat)
 | []=>[[]]
 |x::xs=>(Hh xs).flatMap (Oz x)
theorem OG (x:Nat) (b:V6 Nat):∀a:V6 Nat,a++x::b∈Oz x (a++b)
 | []=>by cases b<;>simp[Oz]
 |y::a=>by
  simp only[List.cons_append,Oz,zAi,zB5];exact .inr ⟨_,OG x b a,rfl⟩
theorem JY:∀(l s:V6 Nat),s.Perm l->s∈Hh l
 | [],s,h=>by simp[Hh,h.eq_nil]
 | x :: l, s, h =>by
  have d:x∈s:=h.symm.subset zAd;obtain⟨a,b,rfl⟩:=List.append_of_mem d;have c:(a++b).Perm l:=by
   have:(x::(a++b)).Perm (x::l):=(List.perm_middle.symm).trans h;exact(List.perm_cons x).1 this
  simp only[Hh,List.mem_flatMap];exact⟨a++b,JY l _ c,OG x b a⟩
def pw (m:V6 Nat):V6 Nat->V4
 | []=>true
 |x::L=>L.all (λi=> !before m x i && !Nat.beq x i)&&pw m L
theorem XI (m:V6 Nat):∀L:V6 Nat,pw m L=true->L.Nodup/\L.Pairwise (λx i=>before m x i=false)
 | [],_=>⟨List.nodup_nil,List.Pairwise.nil⟩
 |x::L,h=>by
  simp only[pw,zA5]at h;have⟨b,c⟩:=XI m L h.2;have a:=zA2.1 h.1;refine⟨List.nodup_cons.2 ⟨λe=>?_,b⟩,List.pairwise_cons.2 ⟨λi d=>?_,c⟩⟩
  .have:=a x e;simp at this
  .have:=a i d;simp only[zA5,zB4]at this;exact this.1
def aaq (l:V6 V5) (m:V6 Nat) (LL:V6 (V6 Nat)):V4:=
 (LL.all λL=>pw m L&&L.all (λi=>Nat.blt i l.length)&&(List.range l.length).all (λi=>L.contains i)) &&
 ((Hh ((List.range l.length).filter (eK l))).all λs=> !pw m s||LL.any λL=>L.filter (eK l)==s)
theorem Qk {hc:acm l m k0}:∀(s:V6 Nat) (a:Array V4),a.size=l.length->Lin l a s->
  (∀j k,a.getD j false=true->before m j k=true->k<l.length->a.getD k false=true)->
  s.Nodup/\(∀i,i∈s↔i<l.length/\a.getD i true=false)/\s.Pairwise (λx i=>before m x i=false)
 | [],a,_,h,_=>⟨List.nodup_nil,λi=>⟨λB=>by simp at B,fun⟨z,g⟩=>by rw[h i z]at g;cases g⟩,List.Pairwise.nil⟩
 | i :: s, a, hsz, h, hcl =>by
  have⟨M,y⟩:=h;have⟨I,o,C,d⟩:=mem_ready.1 M;have F:l[i]?=some o:=by simpa using C
  have t:=bM F;have c:∀k,before m i k=true->k<l.length->a.getD k false=true:=by
   intro k w r;have⟨_,e,L,f⟩:=hc.trans i o F k w r;obtain⟨H,A,rfl⟩:=zB5.1 L;have⟨n,p⟩:=List.mem_filter.1 A;have y:=d H (by simpa using n) p;rcases f with rfl|f
   .exact y
   .exact hcl _ _ y f r
  have⟨z,g,J⟩:=Qk (hc:=hc) s (a.setIfInBounds i true) (by simp[hsz]) y (λj k E q w=>by
   by_cases e:i=j
   .subst e;exact getD_set_true (c k q w)
   .rw[getD_set_ne false e]at E;exact getD_set_true (hcl j k E q w))
  have v:i∉s:=λB=>by
   have:=((g i).1 B).2;simp[hsz,t]at this
  refine⟨List.nodup_cons.2 ⟨v,z⟩,λj=>?_,List.pairwise_cons.2 ⟨λx G=>?_,J⟩⟩
  .by_cases e:i=j
   .subst e;simp[t,I]
   .rw[zAi,g j,getD_set_ne true e];constructor
    .rintro(h|h)
     .exact absurd h.symm e
     .exact h
    .exact λh=>.inr h
  .cases K:before m i x with
   |false=>rfl
   |true=>
    have b:=(g x).1 G;have D:i≠x:=λe=>v (e▸G);rw[getD_set_ne true D]at b;have:=c x K b.1;have u:x<a.size:=V7
    simp[u]at this b;rw[this]at b;simp at b
theorem MG {S:V1 Nat} {id:Nat} {a:Act} {w:V2} (E:V6 (V6 Nat)) (M:l.all lW=true) (O:P.follows .mixedOrders=true) (J:agV l m k0=true) (C:aaq l m E=true)
  (h:∀L∈E,RW P l.toArray Q (before m) (eK l) k0 L a w.drew [] []):(Code.region id l.toArray true).wpr S P Q a w:=by
 refine Nn M λt=>?_;have f:=Yx J;simp only[Region.schedule,O,Bool.true_or,if_true,Region.linearise];have H:∀i,i<l.length->(Array.replicate l.toArray.size false).getD i true=false:=λi d=>by simp[d]
 have n:∀j k,(Array.replicate l.toArray.size false).getD j false=true->before m j k=true->k<l.length->(Array.replicate l.toArray.size false).getD k false=true:=by
  intro j k A;simp[Array.getElem?_replicate]at A;split at A<;>simp at A
 have c:=ahA f l.toArray.size t (Array.replicate l.toArray.size false) (by unfold left;exact zAz (List.length_filter_le _ _) V8) V8;generalize Region.linearise.go .any l.toArray l.toArray.size t (Array.replicate l.toArray.size false) []=s at c;have⟨K,o,R⟩:=Qk (hc:=f) s _ V8 c n;simp only[aaq,zA5]at C;have g:s.Perm (List.range l.length):=by
  refine(List.perm_ext_iff_of_nodup K List.nodup_range).2 λi=>?_;rw[o i,zAg];exact⟨λh=>h.1,λh=>⟨h,H i h⟩⟩
 have B:=JY _ _ (g.filter (eK l));have v:=zA2.1 C.2 _ B;have u:pw m (s.filter (eK l))=true:=by
  have p:(s.filter (eK l)).Nodup:=List.Pairwise.filter _ K;have r:(s.filter (eK l)).Pairwise (λx i=>before m x i=false):=List.Pairwise.filter _ R;generalize s.filter (eK l)=q at p r
  induction q with
  |nil=>rfl
  |cons x q D=>
   have F:=List.nodup_cons.1 p;have G:=List.pairwise_cons.1 r;simp only[pw,zA5,zA2,zB4];refine⟨λi d=>⟨G.1 i d,qT (λe=>F.1 (e▸d))⟩,D F.2 G.2⟩
 rw[u]at v;simp only[Bool.not_true,Bool.false_or,List.any_eq_true]at v;have⟨L,I,N⟩:=v;have b:=zA2.1 C.1 L I;simp only[zA5,zA2,zAp,zAg,List.contains_iff_mem]at b;have⟨y,z⟩:=XI m L b.1.1;exact ZK f s L _ a _ [] [] c V8 y z (λi=>⟨λd=>⟨b.1.2 i d,H i (b.1.2 i d)⟩,λd=>b.2 i d.1⟩) n (by simpa using N) (h L I)
theorem Yk {k:V1 Nat} {c:zW} {n:Sz} {d:Fr} {M L:V6 bF} {id:Nat} (m:V6 Nat) (k0:Nat) (b:V6 (V6 Nat)) (g:P.follows .mixedOrders=true) (e:agV l m k0=true) (j:aaq l m b=true)
  (h:∀o∈b,JR c n d M L [] [] (RW P l.toArray Q (before m) (eK l) k0 o)) (f:l.all lW=true:=by rfl):J c n d M L ((Code.region id l.toArray true).wpr k P Q):=λa w s t=>
 MG b f g e j λo i=>h o i a w.drew [] [] s (t.ext ((Below.refl _ _).drew)) trivial trivial
end
end Go.Sx
section
set_option maxRecDepth 100000
namespace Go.Sx
open Go.RowKit Go.ChangeShapes Go.WideShapes Go.ChangeAt Go.Proofs Go.Joins
theorem alr:ownKnob prog.godebug=none:=by kernel_rfl
theorem aji:laidOutB prog=true:=by kernel_rfl
section
variable {H:Type} {enc:V9×V0->H} {P:Program}
theorem Kh (j:laidOutB P=true) {W g:V2} (i:UN W g):∀(a:V6 V9) (e:V6 V0) (c:V6 (DataW H)) (p:V6 MemPlace),(a.all λt=>P.readableRec t&&decide (t<P.types.size))=true->
  DataW.TrodAll enc P W 0 (λ_=>true) true a e c p->(∀x∈p,x.block<W.heap.size)->DataW.TrodAll enc P g 0 (λb=>decide (b<W.heap.size)) true a e c p
 | [],[],[],_,_,h,_=>h
 |t::a,v::e,d::c,ps,hr,h,hlt=>by
  obtain⟨p,q,k,l,rfl⟩:=h;simp only[List.all_cons,zA5,zAa]at hr;exact⟨p,q,Below.trod j hr.1.1 hr.1.2 k i (λx f=>hlt x (List.mem_append_left _ f)),Kh j i a e c q (by simpa using hr.2) l (λx f=>hlt x (List.mem_append_right _ f)),rfl⟩
 | [],[],_::_,_,_,h,_=>h.elim
 | [],_::_,_,_,_,h,_=>h.elim
 |_::_,[],_,_,_,h,_=>h.elim
 |_::_,_::_,[],_,_,h,_=>h.elim
theorem Om {f:FuncId} {a:Array V0} {L:V6 bF} {W:V2} (h:aZ prog f a L (λ_:Unit=>.bool true) (λ_ l=>l) (λ_ l=>l)) (c:∀g∈L,g.p W (λ_=>True)):
  Calls prog f a W λe b=>e = .returned (.bool true)/\UN W b:=
 (h W (λ_=>True) c).mono λ_ _ ⟨_,d,i⟩=>⟨d,i.old.ext⟩
variable {w:V2} {base:Nat} {spare:Nat->V4} {held:V4}
theorem Yv {A:Addr} {k:Nat} {a:V6 V0} (h:w.cells? base A k=some a):a.length=k/\∀(j:Nat) (u:V0),a[j]?=some u->w.cell? (A.add j)=some u:=by
 have⟨_,c,d⟩:=World.cells?_some h;refine⟨c,λj u b=>?_⟩
 have e:=bM b;rw[d j V7];exact b
theorem Dh {B:Type} (r:iN B) {t e:V9} (ht:P.underlying t=some (.slice e)) (X:P.cellsOf e=r.sz)
  (F:∀(n:Nat) (N:V6 V0) (x:DataW H×V6 MemPlace),DataW.trod enc P w base spare held n e N=some x->∃y:B,r.R w (λ_=>True) N y)
  {U:Nat} {v:V0} {x:DataW H×V6 MemPlace} (h:DataW.trod enc P w base spare held U t [v]=some x):∃d:V6 B,LG r w (λ_=>True) v d:=by
 rcases Deep.open_slice ht h with⟨L,_⟩|⟨a,f,o,m,n,D,Pl,L,hb,hl,hm,I,_,hx⟩
 .cases L;exact⟨[],none,0,rfl,V8,.inl Z⟩
 cases L;have Y:f<=m:=by rw[I];split<;>omega
 by_cases W:f=0
 .subst W;exact⟨[],some a,o,rfl,V8,.inl Z⟩
 -- the elements,chosen one by one
 have M:∀k,k<=f->∃d:V6 B,d.length=k/\∀i y,d[i]?=some y->∃g,(∀(j:Nat) (u:V0),g[j]?=some u->w.cell? ((a.add (i*P.cellsOf e)).add j)=some u)/\r.R w (λ_=>True) g y:=by
  intro k
  induction k with
  |zero=>exact λ_=>⟨[],rfl,λi y q=>by simp at q⟩
  | succ k ih =>
   intro hk;have⟨d,z,A⟩:=ih V7;have⟨p,C,K⟩:=hx k V7;have⟨y,q⟩:=F n p _ K;refine⟨d++[y],by simp[z],λi y' l=>?_⟩
   by_cases S:i<d.length
   .rw[zAe S]at l;exact A i y' l
   have G:i=k:=by
    have:=bM l;simp at this;omega
   subst G;rw[zA9 V7,z,Nat.sub_self]at l;simp at l;subst l;exact⟨p,(Yv C).2,q⟩
 have⟨d,z,A⟩:=M f (zAf _);have c:a.spot=none:=by
  have⟨g,E,J⟩:=A 0 (d[0]'V7) (zA1 _);have O:=r.len J;have Q:=r.pos;have:=E 0 (g[0]'V7) (zA1 _);rw[Nat.zero_mul]at this;have T:(a.add 0).add 0=a:=rfl;rw[T]at this;unfold World.cell? at this;split at this
  .split at this
   .cases this
   rename_i V;simpa using V
  cases this
 have⟨b,s,sp⟩:=a;simp only at c;subst c;refine⟨d,some ⟨b,s,none⟩,o,by rw[z],?_,.inr ⟨b,s,rfl,trivial,λi y q=>?_⟩⟩
 .have:maxLen=9223372036854775807:=rfl;exact⟨V7,V7⟩
 have⟨g,E,J⟩:=A i y q;refine⟨g,λj u hu=>?_,J⟩
 have:=E j u hu;rw[gQ,gQ,X]at this;rwa[Nat.add_assoc]at this
theorem GQ {k:IntKind} {e:V9} (b:P.underlying e=some (.int k)) (n:Nat) (a:V6 V0) (x:DataW H×V6 MemPlace) (h:DataW.trod enc P w base spare held n e a=some x):∃y:Int,(iN.int k).R w (λ_=>True) a y:=by
 have⟨y,c,_,_⟩:=DataW.trod_int b h;exact⟨y,c⟩
theorem aaA {g:Type} (r:iN g) {t e:V9} (i:P.underlying t=some (.slice e)) (k:P.cellsOf e=r.sz)
  (c:∀(n:Nat) (b:V6 V0) (x:DataW H×V6 MemPlace),DataW.trod enc P w base spare held n e b=some x->∃y:g,r.R w (λ_=>True) b y)
  (n:Nat) (b:V6 V0) (x:DataW H×V6 MemPlace) (h:DataW.trod enc P w base spare held n t b=some x):∃y:V0×V6 g,(iN.sl r).R w (λ_=>True) b y:=by
 have:∃v,b=[v]:=by
  rcases Deep.open_slice i h with⟨d,_⟩|⟨a,l,j,m,n,D,p,d,_⟩
  .exact⟨_,d⟩
  exact⟨_,d⟩
 obtain⟨v,rfl⟩:=this;have⟨o,f⟩:=Dh r i k c h;exact⟨(v,o),rfl,f⟩
theorem adQ (n:Nat) (c:V6 V0) (x:DataW H×V6 MemPlace) (h:DataW.trod enc prog w base spare held n 144 c=some x):∃y:Int×Int,NP.R w (λ_=>True) c y:=by
 have⟨l,o,m,_,f,j,k⟩:=trod_struct2 underlying144 h;have⟨a,d,_,_⟩:=DataW.trod_int underlying3 j;have⟨b,e,_,_⟩:=DataW.trod_int underlying3 k;have g:prog.cellsOf 3=1:=by kernel_rfl
 have i:prog.cellsOf 144=2:=by kernel_rfl
 simp only[g]at d e;refine⟨(a,b),[.int .i64 a],[.int .i64 b],?_,rfl,rfl⟩
 rw[i]at f
 match c,f with
 | [c0,c1],_=>
  simp at d e;rw[d,e];rfl
theorem Yw:prog.cellsOf 3=1:=by kernel_rfl
theorem Vr:prog.cellsOf 144=2:=by kernel_rfl
theorem TI:prog.cellsOf 78=1:=by kernel_rfl
theorem TH:prog.cellsOf 29=2:=by kernel_rfl
theorem VW {i:Nat} {v:V0} {d:DataW H} {p:V6 MemPlace} (l:Value.okWide prog w .any i 29 v) (h:DataW.Trod enc prog w base spare held 29 v d p):
  ∃(c e:V0) (a:V6 Int) (g:V6 (V0×V6 (Int×Int))),v = .agg #[c,e]/\(Sl (iN.int .i64) c a).p w (λ_=>True)/\(Sl (iN.sl NP) e g).p w (λ_=>True):=by
 obtain⟨c,e,n,o,m,rfl,_,_,j,k⟩:=open_agg2 underlying29 (by kernel_rfl) TH l h;have⟨a,b⟩:=Dh (iN.int .i64) underlying26 Yw (GQ underlying3) j;have⟨g,f⟩:=Dh (iN.sl NP) underlying27 TI (aaA NP underlying78 Vr adQ) k;exact⟨c,e,a,g,rfl,b,f⟩
end
end Go.Sx
end
namespace Go.Sx
open Go.RowKit
def ck {a:Type} (p:Prop) [Decidable p] (x:V1 a):V1 a:=if p then x else none
theorem Gs {b:Type} {p:Prop} [Decidable p] {x:V1 b} {r:b} (h:ck p x=some r):p/\x=some r:=by
 unfold ck at h;by_cases a:p
 .rw[if_pos a]at h;exact⟨a,h⟩
 .rw[if_neg a]at h;cases h
theorem Bt {a:Type} {p:Prop} [Decidable p] {x y:V1 a} {r:a} (b:p) (h:(if p then x else y)=some r):x=some r:=by rwa[if_pos b]at h
theorem MP {a:Type} {p:Prop} [Decidable p] {x y:V1 a} {r:a} (b:¬p) (h:(if p then x else y)=some r):y=some r:=by rwa[if_neg b]at h
theorem w_ {a:Type} {b:V4} {x y:V1 a} {r:a} (c:b=false) (h:(if b=true then x else y)=some r):y=some r:=by
 rwa[if_neg (by simp[c])]at h
theorem bnd {a b:Type} {x:V1 a} {f:a->V1 b} {r:b} (h:x.bind f=some r):∃y,x=some y/\f y=some r:=Option.bind_eq_some_iff.1 h
def bG {X R:Type} (step:X->(X->V1 R)->V1 R):Nat->X->V1 R
 |0,_=>none
 |k+1,x=>step x (bG step k)
def aQ (M L:V6 bF) (g:bF):Prop:=∀(w:V2) (S:Nat->Prop) (T:Nat->Nat->Prop) (U:Nat->Prop),(∀f∈L,f.p w S)->(∀(i:Nat) (m:bF),M[i]?=some m->m.p w (T i))->(∀k,S k->U k)->(∀i k,T i k->U k)->g.p w U
section
variable {M L:V6 bF} {α β:Type} {e:iW α} {r:iN α} {v:V0}
theorem bF.wide {f:bF} {w:V2} {S U:Nat->Prop} (h:f.p w S) (a:∀k,S k->U k):f.p w U:=f.mono h λk b _=>⟨a k b,rfl⟩
theorem aQ.fact {g:bF} (j:Nat) (h:L[j]?=some g):aQ M L g:=λ_ _ _ _ a _ b _=>bF.wide (a g (zAo h)) b
theorem aQ.res {m:bF} (i:Nat) (h:M[i]?=some m):aQ M L m:=λ_ _ _ _ _ a _ b=>bF.wide (a i m h) (b i)
theorem aQ.mono {f g:bF} (h:aQ M L f) (a:∀{w U},f.p w U->g.p w U):aQ M L g:=λw S T U b c d i=>a (h w S T U b c d i)
theorem bL {b:V6 α} (h:aQ M L (Ar e v b)) (a:e.Fits r):aQ M L (Sl r v b):=h.mono λh=>Hz.sl a h
theorem aQ.nil:aQ M L (Sl r (.slice none 0 0) []):=λ_ _ _ _ _ _ _ _=>⟨none,0,rfl,V8,.inl Z⟩
def Sn {β:Type} (r:iN α) (b:α->β) (v:V0) (a:V6 α) (c:V6 β):bF where
 p w S:=LG r w S v a/\a.map b=c
 mono:=λh e=>⟨h.1.mono e,h.2⟩
abbrev S2 (r:iN α) (v:V0) (b:V6 (V0×V6 α)) (a:V6 (V6 α)):bF:=Sn (iN.sl r) (λz=>z.2) v b a
theorem aQ.sl {b:α->β} {a:V6 α} {c:V6 β} (h:aQ M L (Sn r b v a c)):aQ M L (Sl r v a):=h.mono λh=>h.1
theorem acE [Inhabited α] [Inhabited β] (f:α->β) {a:V6 α} {i:Int} (c:0<=i) (d:i<a.length):at' (a.map f) i=f (at' a i):=by
 have h:=jI c d;have b:=jI (xs:=a.map f) c (by simpa using d);rw[List.getElem?_map,h]at b;simpa using b.symm
theorem zB9 {b:V6 (V0×V6 α)} {a:V6 (V6 α)} {i:Int} (h:aQ M L (S2 r v b a)) (c:0<=i) (d:i<a.length):aQ M L (Sl r (at' b i).1 (at' a i)):=h.mono λ{w U} h=>by
 have⟨h,f⟩:=h;have g:i<b.length:=by rw[<-f]at d;simpa using d
 have⟨k,j,_⟩:=sl_cell h (jI c g);rw[<-f,acE _ c g];exact j.2
theorem aQ.rows {i j:Nat} {vs:V6 V0} {a:V6 (V6 α)} (l:M[i]?=some (Ar eD v vs)) (m:M[j]?=some (sR e vs a)) (b:e.Fits r):aQ M L (S2 r v (vs.zip a) a):=λw S T U o c p f=>by
 have g:=c i _ l;have d:=c j _ m;refine⟨(aew b g d).mono λk n _=>⟨?_,rfl⟩,?_⟩
 .rcases n with h|h
  .exact f i k h
  .exact f j k h
 .rw[List.map_snd_zip];have⟨q,_⟩:=d;omega
theorem aQ.row {j:Nat} {vs:V6 V0} {a:V6 (V6 α)} {k:Int} (m:M[j]?=some (sR e vs a)) (b:e.Fits r) (c:0<=k) (h:k<a.length):aQ M L (Sl r (at' vs k) (at' a k)):=λw S T U o i p l=>by
 have d:=i j _ m;have s:=d.1;have⟨_,G,f,g,_⟩:=d;exact(Hz.sl b (f k.toNat _ _ (jI c V7) (jI c h))).mono λq n _=>⟨l j q (g _ q n),rfl⟩
theorem aQ.st {c:zW} {w:V2} {g:bF} (h:aQ M L g) (t:St c M L w):∃S,g.p w S:=by
 have⟨_,F,a,b⟩:=t;exact⟨λ_=>True,h w (HB c F) F (λ_=>True) b a.res (λ_ _=>trivial) (λ_ _ _=>trivial)⟩
end
section
variable {P:Program} {rd:V1 Nat} {c:zW} {n:Sz} {σ:Fr} {M L:V6 bF} {Q:Exit->Act->V2->Prop} {ops:Array V5} {rest:V6 V5}
variable {d:V1 Tmp} {D:Nat} {ty:V9} {pos:String} {aft:Array Edge} {g:V1 (Nat×V4)}
variable {α β:Type} {e:iW α} {r:iN α}
theorem dO [eB P] {T E:V9} {l m:Nat} {z:V0} {x:V3} {v:V0} {b:V6 α} (k:ev σ x=some v) (i:aQ M L (Sl r v b))
  (h:eB.tab P T=some ⟨.slice E,l,m,z⟩):Y P c n σ M L ⟨d,.call ⟨.builtin .len,#[x],#[T]⟩,ty,pos,aft,g⟩ (.int .i64 b.length):=λa w s t=>by
 have⟨S,o,f,j,_,_⟩:=i.st t;subst j;simp[execOp,resolve,invoke,builtin,s.eval k,Sg w (eB.ok h) Z]
theorem mB [eB P] {T E:V9} {l m:Nat} {z:V0} {x:V3} {v:V0} {i:α->β} {o:V6 α} {f:V6 β} (k:ev σ x=some v) (b:aQ M L (Sn r i v o f))
  (j:eB.tab P T=some ⟨.slice E,l,m,z⟩):Y P c n σ M L ⟨d,.call ⟨.builtin .len,#[x],#[T]⟩,ty,pos,aft,g⟩ (.int .i64 f.length):=λa w s t=>by
 have⟨_,_,h⟩:=b.st t;rw[<-h,List.length_map];exact dO k b.sl j a w s t
theorem a_ [eB P] {T E:V9} {G H l I:Nat} {z J:V0} {o:TypeDesc} {x y:V3} {v:V0} {i:Int} {m:V6 α} (C:ev σ x=some v) (F:ev σ y=some (.int .i64 i)) (A:aQ M L (Sl r v m))
  (u:eB.tab P T=some ⟨.slice E,G,H,z⟩) (q:eB.tab P E=some ⟨o,l,I,J⟩) (h:0<=i/\i<m.length):
  Y P c n σ M L ⟨d,.indexAddr T x y,ty,pos,aft,g⟩ (IR v (i.toNat*l)):=λa w s t=>by
 have⟨p,k⟩:=h;have⟨S,K,f,B,_,h⟩:=A.st t;rcases h with h|⟨b,j,rfl,_,_⟩
 .subst h;simp at k;omega
 .subst B;simp[execOp,s.eval C,s.eval F,Mu w (eB.ok u) Z (eB.ok q) b j _ f i p k]
theorem Sn.len {w:V2} {S:Nat->Prop} {v:V0} {b:α->β} {a:V6 α} {xs:V6 β} (h:(Sn r b v a xs).p w S):a.length=xs.length:=by rw[<-h.2];simp
theorem fJ [eB P] {T E:V9} {A B f C:Nat} {z F:V0} {k:TypeDesc} {x y:V3} {v:V0} {i:Int} {l:α->β} {G:V6 α} {j:V6 β} (q:ev σ x=some v) (u:ev σ y=some (.int .i64 i)) (b:aQ M L (Sn r l v G j))
  (p:eB.tab P T=some ⟨.slice E,A,B,z⟩) (o:eB.tab P E=some ⟨k,f,C,F⟩) (h:0<=i/\i<j.length):
  Y P c n σ M L ⟨d,.indexAddr T x y,ty,pos,aft,g⟩ (IR v (i.toNat*f)):=λa w s t=>by
 have⟨_,m⟩:=b.st t;exact a_ q u b.sl p o (by rw[Sn.len m];exact h) a w s t
theorem fW [eB P] [Inhabited α] {T:V9} {F G q o:Nat} {z:V0} {k:TypeDesc} {x:V3} {v:V0} {i:Int} {j:V6 α} {f:α->V0} (E:ev σ x=some (IR v (i.toNat*q+o))) (A:aQ M L (Sl r v j))
  (p:eB.tab P T=some ⟨k,F,G,z⟩) (y:Bh k=false) (C:r.sz=q) (u:r.Cell o f) (h:0<=i/\i<j.length):
  Y P c n σ M L ⟨d,.load T x,ty,pos,aft,g⟩ (f (at' j i)):=λa w s t=>by
 have⟨l,m⟩:=h;have⟨S,h⟩:=A.st t;have⟨H,B,b⟩:=sl_cell h (jI l m);have:=b o _ (u B);rw[C]at this;simp[execOp,s.eval E,IR,zQ (eB.ok p) y this]
theorem eC [eB P] [Inhabited α] {T:V9} {t u q:Nat} {z:V0} {b:TypeDesc} {x:V3} {v:V0} {i:Int} {a:V6 α} {f:α->V0} (s:ev σ x=some (IR v (i.toNat*q))) (m:aQ M L (Sl r v a))
  (j:eB.tab P T=some ⟨b,t,u,z⟩) (l:Bh b=false) (p:r.sz=q) (k:r.Cell 0 f) (h:0<=i/\i<a.length):
  Y P c n σ M L ⟨d,.load T x,ty,pos,aft,g⟩ (f (at' a i)):=fW (o:=0) s m j l p k h
theorem eI [eB P] {T:V9} {u y:Nat} {z:V0} {j:TypeDesc} {x:V3} {v:V0} {i:Int} {l:V6 (V0×V6 α)} {b:V6 (V6 α)} (q:ev σ x=some (IR v (i.toNat*1))) (k:aQ M L (S2 r v l b))
  (o:eB.tab P T=some ⟨j,u,y,z⟩) (p:Bh j=false) (h:0<=i/\i<b.length):
  Y P c n σ M L ⟨d,.load T x,ty,pos,aft,g⟩ (at' l i).1:=λa w s t=>by
 have⟨_,m⟩:=k.st t;exact eC (r:=iN.sl r) (f:=λz=>z.1) q k.sl o p Z (iN.sl_cell r) (by rw[Sn.len m];exact h) a w s t
theorem Fi [eB P] (j:Nat) {T:V9} {o:Nat} {z:V0} {a:TypeDesc} {x:V3} {v:V0} {i:Int} {vs:V6 V0} {m:Nat} (l:ev σ x=some (IR v (i.toNat*1))) (k:M[j]?=some (Ar eD v vs)) (p:vs.length=m)
  (b:eB.tab P T=some ⟨a,1,o,z⟩) (f:Bh a=false) (h:0<=i/\i<m):
  Y P c n σ M L ⟨d,.load T x,ty,pos,aft,g⟩ (at' vs i):=ZT j l k b f Z Z h.1 V7
theorem eO [eB P] [Inhabited α] {T:V9} {K q:Nat} {z:V0} {o:TypeDesc} {x:V3} {v:V0} {i:Int} {k:V6 α} {cs:V6 V0} (J:ev σ x=some (IR v (i.toNat*q))) (F:aQ M L (Sl r v k)) (f:e.Fits r) (l:e.enc (at' k i)=cs)
  (B:eB.tab P T=some ⟨o,cs.length,K,z⟩) (C:Bh o=true) (G:e.sz=q) (h:0<=i/\i<k.length):Y P c n σ M L ⟨d,.load T x,ty,pos,aft,g⟩ (.agg cs.toArray):=λa w s t=>by
 have⟨p,y⟩:=h;have⟨S,h⟩:=F.st t;have⟨N,H,b⟩:=sl_cell h (jI p y);have⟨m,E,_,_⟩:=f;have:=E H;subst this l;rw[m,G]at b;have:=GB (w:=w) (A:=PE v (i.toNat*q)) (cs:=e.enc (at' k i)) (eB.ok B) C Z (λj u I=>by rw[NF];exact b j u I);simp[execOp,s.eval J,IR,this]
def aE (M L a:V6 bF):Prop:=∀f∈a,aQ M L f
theorem aE.nil:aE M L []:=λ_ h=>by simp at h
theorem aE.cons {f:bF} {b:V6 bF} (h:aQ M L f) (k:aE M L b):aE M L (f::b):=λx a=>by
 rcases zAi.1 a with rfl|a
 .exact h
 .exact k x a
theorem Tk {w i:V2} {b:V6 bF} {F:Nat->Nat->Prop} {U:Nat->Prop} (o:HE c.O c.w0 w) (k:Own c w M F) (l:∀f∈L,f.p w (HB c F))
  (t:St ⟨w,U,λ_=>False⟩ b [] i):St c (b++M) L i:=by
 have⟨h,j,a,_⟩:=t;have q:St ⟨w,HB c F,λ_=>False⟩ b [] i:=⟨h,j,⟨a.res,a.rng,a.dis⟩,λf m=>by simp at m⟩
 exact St.call o k l q
theorem HF {A:Type} {j:A->V0} {k:A->V6 bF->V6 bF} {f:FuncId} {o:V6 V3} {vs:V6 V0} {b:Array V9} {p:V6 bF} (v:aX P f)
  (B:aZ P f vs.toArray p j k (λ_ l=>l)) (E:o.map (ev σ)=vs.map some) (u:aE M L p) (m:∀x l,k x l=k x []++l):
  aO P c n σ M L ⟨d,.call ⟨.value (.func f),o.toArray,b⟩,ty,pos,aft,g⟩ j (λx=>k x M) (λ_=>L):=λa w s t=>by
 have i:(execOp a.eval ⟨d,.call ⟨.value (.func f),o.toArray,b⟩,ty,pos,aft,g⟩).run P w = .ok (.enter f vs.toArray) w:=by
  have e:=evs s E;simp[execOp,resolve,Act.eval,Deferred.ofValue,invoke,v _ w,e]
 simp only[Oper.wp,i,Oper.upon];have⟨z,F,q,h⟩:=t;refine(B w (λ_=>True) (λf y=>u f y w (HB c F) F _ h q.res (λ_ _=>trivial) (λ_ _ _=>trivial))).mono ?_;rintro e G ⟨x,rfl,C⟩;refine⟨x,rfl,?_⟩
 rw[m];exact Tk z q h C
theorem Bo {A:Type} {j:A->V0} {k:A->V6 bF->V6 bF} {f:FuncId} {t:Tmp} {p:V6 V3} {vs cs:V6 V0} {b:Array V9} {q:V6 bF} (z:aX P f)
  (o:lk σ t=some (.func (.func f) #[] cs.toArray)) (E:aZ P f (vs++cs).toArray q j k (λ_ l=>l)) (G:p.map (ev σ)=vs.map some) (y:aE M L q) (m:∀x l,k x l=k x []++l):
  aO P c n σ M L ⟨d,.call ⟨.value (.tmp t),p.toArray,b⟩,ty,pos,aft,g⟩ j (λx=>k x M) (λ_=>L):=λa w s H=>by
 have i:(execOp a.eval ⟨d,.call ⟨.value (.tmp t),p.toArray,b⟩,ty,pos,aft,g⟩).run P w = .ok (.enter f (vs++cs).toArray) w:=by
  have e:=evs s G;have v:a.eval (.tmp t) = .func (.func f) #[] cs.toArray:=s.eval (x:= .tmp t) o;simp[execOp,resolve,v,Deferred.ofValue,invoke,z _ w,e]
 simp only[Oper.wp,i,Oper.upon];have⟨C,F,u,h⟩:=H;refine(E w (λ_=>True) (λf B=>y f B w (HB c F) F _ h u.res (λ_ _=>trivial) (λ_ _ _=>trivial))).mono ?_;rintro e I ⟨x,rfl,o⟩;refine⟨x,rfl,?_⟩
 rw[m];exact Tk C u h o
theorem sF [eB P] (i:Nat) {r:iN α} (b:e.Fits r) {x y:V3} {v u:V0} {h j:V6 α} {T E:V9} {W X m k:Nat} {z p:V0} {q:TypeDesc} (S:ev σ x=some v) (U:ev σ y=some u) (J:M[i]?=some (Ar e v h)) (K:aQ M L (Sl r u j))
  (o:eB.tab P T=some ⟨.slice E,W,X,z⟩) (G:eB.tab P E=some ⟨q,m,k,p⟩) (B:e.sz=m) (C:Nat.ble k 1024=true) (Y:(h.length:Int)+j.length<=1099511627) (V:p.cells.size=m):
  aO P c n σ M L ⟨d,.call ⟨.builtin .append,#[x,y],#[T,T]⟩,ty,pos,aft,g⟩ (λf:V0=>f) (λf=>M.set i (Ar e f (h++j))) (λ_=>L):=λa w s t=>by
 subst B;have⟨F,H⟩:=K.st t;have⟨O,A⟩:=Tj b H o;have l:k<=1024:=by simpa using C
 have I:(h.length+j.length)*k<=140737488355328:=zAz (Nat.mul_le_mul (show h.length+j.length<=1099511627 by omega) l) Q2;have⟨f,w',N,R⟩:=t.append (ty:=ty) J O A o G I V7 V;simp only[Oper.wp,HY s S U w,N,Result.andThen_ok,Oper.upon];exact⟨f,rfl,R⟩
theorem St.appendRow [eB P] {w:V2} (t:St c M L w) {i:Nat} {u:V0} {k:Int} {C:V6 V0} {b:V6 (V6 α)} {p:V6 α} {T E ty:V9} {s1 s2 s4:Nat} {z z':V0} {dE:TypeDesc} (hf:M[i]?=some (sR e C b)) (A:Src P e.sz T u p.length (cellsOf e p) w) (x:(cellsOf e p).all one=true)
  (hT:eB.tab P T=some ⟨.slice E,s1,s2,z⟩) (hE:eB.tab P E=some ⟨dE,e.sz,s4,z'⟩) (Y:0<=k) (h1:k<C.length) (hb:((at' b k).length+p.length)*s4<=140737488355328) (hl:(at' b k).length+p.length<=140737488355328) (hz:z'.cells.size=e.sz):
  ∃B N,(Builtin.append_ #[T,T] ty #[at' C k,u]).run P w = .ok B N/\St c (M.set i (sR e (C.set k.toNat B) (b.set k.toNat (at' b k++p)))) L N:=by
 have t0:=t;have⟨ho,FF,hO,U⟩:=t0;have hR:=hO.res i _ hf;have⟨s,G,X,S,I⟩:=hR;have V:k.toNat<C.length:=V7
 have y:=X k.toNat _ _ (jI Y h1) (jI Y V7);have⟨B,N,F',hr,hA,l⟩:=Hz.append (ty:=ty) y A x hT hE hb hl hz;refine⟨B,N,hr,?_⟩
 refine Nw ho hO U hf l.os l.tape l.out l.size (λq a hn=>l.same q a (λh=>hn (S _ q h))) (F':=λq=>(F' q)\/∃j,j≠k.toNat/\G j q) ?_ ?_
 .refine⟨by simp[s],λj q=>(j=k.toNat/\F' q)\/(j≠k.toNat/\G j q/\q<w.heap.size),?_,?_,?_⟩
  .intro j v2 F m o;by_cases H:j=k.toNat
   .subst H;rw[zAh V]at m;rw[zAh V7]at o;cases m;cases o;exact bF.same (f:=Ar e B (at' b k++p)) hA (λq a=>.inl ⟨rfl,a⟩) (λ_ _ _=>rfl)
   .rw[zAu (Ne.symm H)]at m o;exact(Ar e v2 F).mono (X j v2 F m o) (λq a v=>⟨.inr ⟨H,a,v⟩,l.same q v (λh=>H (I _ _ q a h))⟩)
  .rintro j q (⟨_,a⟩|⟨W,a,_⟩)
   .exact .inl a
   .exact .inr ⟨j,W,a⟩
  .rintro j1 j2 q (⟨O,J⟩|⟨O,J,l1⟩) (⟨R,K⟩|⟨R,K,l2⟩)
   .rw[O,R]
   .rcases l.sub q J with h|⟨h,_⟩
    .exact absurd (I _ _ q K h) R
    .omega
   .rcases l.sub q K with h|⟨h,_⟩
    .exact absurd (I _ _ q J h) O
    .omega
   .exact I _ _ q J K
 .rintro q (a|⟨j,_,a⟩)
  .rcases l.sub q a with h|h
   .exact .inl (S _ q h)
   .exact .inr h
  .exact .inl (S _ q a)
theorem vD [eB P] (i:Nat) {r:iN α} (f:e.Fits r) {x y:V3} {u:V0} {k:Int} {vs:V6 V0} {b:V6 (V6 α)} {l:V6 α} {T E:V9} {s1 s2 p m:Nat} {z B:V0} {C:TypeDesc} (W:ev σ x=some (at' vs k)) (X:ev σ y=some u) (v:M[i]?=some (sR e vs b)) (R:aQ M L (Sl r u l))
  (q:eB.tab P T=some ⟨.slice E,s1,s2,z⟩) (K:eB.tab P E=some ⟨C,p,m,B⟩) (I:e.sz=p) (J:Nat.ble m 1024=true) (G:0<=k/\k<b.length) (hl:((at' b k).length:Int)+l.length<=1099511627) (Y:B.cells.size=p):
  aO P c n σ M L ⟨d,.call ⟨.builtin .append,#[x,y],#[T,T]⟩,ty,pos,aft,g⟩ (λj:V0=>j) (λj=>M.set i (sR e (vs.set k.toNat j) (b.set k.toNat (at' b k++l)))) (λ_=>L):=λa w s t=>by
 subst I;have⟨F,N⟩:=R.st t;have⟨U,H⟩:=Tj f N q;have o:m<=1024:=by simpa using J
 have O:((at' b k).length+l.length)*m<=140737488355328:=zAz (Nat.mul_le_mul (show(at' b k).length+l.length<=1099511627 by omega) o) Q2;have A:vs.length=b.length:=by have⟨_,h⟩:=t.res v;exact h.1
 have⟨j,w',S,V⟩:=t.appendRow (ty:=ty) v U H q K G.1 V7 O V7 Y;simp only[Oper.wp,HY s W X w,S,Result.andThen_ok,Oper.upon];exact⟨j,rfl,V⟩
end
section
variable {P:Program} {rd:V1 Nat} {c:zW} {n:Sz} {σ:Fr} {M L M' L':V6 bF} {Q:Exit->Act->V2->Prop} {ops:Array V5} {rest:V6 V5} {K:Act->V2->Prop}
variable {d:V1 Tmp} {D:Nat} {ty:V9} {pos:String} {aft:Array Edge} {g:V1 (Nat×V4)}
variable {α β:Type} {e:iW α} {r:iN α}
theorem St.weakE {w:V2} (h:St c M L w) (j:aW M M') (i:aE [] L L'):St c M' L' w:=by
 have⟨l,F,b,k⟩:=h.weak (L':=L) j (λ_ h=>h);exact⟨l,F,b,λf a=>i f a w (HB c F) (λ_ _=>False) (HB c F) k (λ_ _ h=>by simp at h) (λ_ h=>h) (λ_ _ h=>h.elim)⟩
theorem aE.refl (M L:V6 bF):aE M L L:=λf a=>by
 have⟨j,b⟩:=List.getElem?_of_mem a;exact aQ.fact j b
def ZH {A B:Type} (c:zW) (n:Sz) (C:A->Prop) (b:A->B->Fr) (h f:A->B->V6 bF) (a:Act) (w:V2):Prop:=∃x y,C x/\Kl n (b x y) a/\St c (h x y) (f x y) w
theorem xD {A B:Type} {x:Code} (C:A->Prop) (f:A->B->Fr) (i h:A->B->V6 bF) (k:J c n σ M L (x.wpr rd P (Exit.then (ZH c n C f i h) Q))) (m:∀a b,C a->J c n (f a b) (i a b) (h a b) K):
  J c n σ M L (x.wpr rd P (Exit.then K Q)):=λa w s t=>LE (λe j v q=>by
 cases e with
 |normal=>have⟨z,y,o,p,u⟩:=q;exact m z y o j v p u
 |exit id=>exact q
 |goto l=>exact q
 |ret=>exact q
 |panic E=>exact q
 |outgrown=>exact q) (k a w s t)
theorem bQ {A B:Type} {C:A->Prop} {a:A->B->Fr} {f b:A->B->V6 bF} (x:A) (y:B) (h:C x) (k:Ej σ (a x y)) (j:aW M (f x y)) (i:aE [] L (b x y)):J c n σ M L (ZH c n C a f b):=
 λ_ _ s t=>⟨x,y,h,s.weak k,t.weakE j i⟩
def acp {A B R:Type} (c:zW) (n:Sz) (b:A->(A->V1 R)->V1 R) (r:R) (f:A->B->Fr) (i h:A->B->V6 bF) (k:Nat) (a:Act) (w:V2):Prop:=
 ∃x y,bG b k x=some r/\Kl n (f x y) a/\St c (i x y) (h x y) w
theorem Dp {A B R:Type} {j:Code} (f:A->(A->V1 R)->V1 R) {r:R} {m:Nat} (i:A->B->Fr) (v u:A->B->V6 bF) (p:A) (z:B) (h:bG f m p=some r)
  (N:Ej σ (i p z)) (I:aW M (v p z)) (H:aE [] L (u p z))
  (o:∀k a b,f a (bG f k)=some r->J c n (i a b) (v a b) (u a b) (j.wpr rd P (Exit.then (acp c n f r i v u k) Q))):J c n σ M L ((Code.loop j).wpr rd P Q):=by
 intro a w s t;refine Zy (X:=Nat×A×B) (λx=>bG f x.1 x.2.1=some r) (λx=>i x.2.1 x.2.2) (λx=>v x.2.1 x.2.2) (λx=>u x.2.1 x.2.2) (λx=>x.1) (m,p,z) h (Ej.refl _) (aW.refl _) (λ_ h=>h) ?_ a w (s.weak N) (t.weakE I H);rintro⟨k,x,y⟩ G;cases k with
 |zero=>cases G
 |succ k=>
  refine Zz (o k x y G) λa w h=>LE (λe T V q=>?_) h;cases e with
  |normal=>have⟨O,S,C,E,F⟩:=q;exact⟨(k,O,S),C,Nat.lt_succ_self k,E,F⟩
  |exit id=>exact q
  |goto l=>exact q
  |ret=>exact q
  |panic U=>exact q
  |outgrown=>exact q
theorem fI {A B R:Type} {a:A->(A->V1 R)->V1 R} {r:R} {k:Nat} {b:A->B->Fr} {i f:A->B->V6 bF} (x:A) (y:B) (h:bG a k x=some r) (m:Ej σ (b x y)) (l:aW M (i x y)) (j:aE [] L (f x y)):
  J c n σ M L (acp c n a r b i f k):=λ_ _ s t=>⟨x,y,h,s.weak m,t.weakE l j⟩
variable {l:V6 V5} {m:V6 Nat} {k0:Nat} {H Bs:V6 (Nat×V6 bF×V6 bF)} {rs:V6 Nat}
theorem bI {i f:Nat} {j:Op} {v:V0} {b a:V6 bF} (s:l[i]?=some ⟨some f,j,ty,pos,aft,none⟩) (p:aW M b) (o:jS L a)
  (w:Y P c n σ b a ⟨some f,j,ty,pos,aft,none⟩ v) (k:aR (before m i) b a H)
  (h:JR c n ((f,v)::σ) M L H ((i,b,a)::Bs) (RW P l.toArray Q (before m) (eK l) k0 rs))
  (t:Nat.blt i k0=true:=by exact rfl) (u:gI j=false:=by exact rfl) (q:Nat.blt f n.sz=true:=by exact rfl):JR c n σ M L H Bs (RW P l.toArray Q (before m) (eK l) k0 (i::rs)):=
 JR.quiet b a s t u w ⟨p,o⟩ k q h
theorem dX {i k:Nat} {o:Op} {v:V0} {j:Nat} {b:V4} {f a:V6 bF} (w:l[i]?=some ⟨some k,o,ty,pos,aft,some (j,b)⟩) (s:aW M f) (q:jS L a)
  (z:Y P c n σ f a ⟨some k,o,ty,pos,aft,some (j,b)⟩ v) (p:aR (before m i) f a H)
  (h:JR c n ((k,v)::σ) M L H ((i,f,a)::Bs) (RW P l.toArray Q (before m) (eK l) k0 rs))
  (x:Nat.blt i k0=true:=by exact rfl) (y:gI o=false:=by exact rfl) (u:gv l.toArray σ j=some b:=by exact rfl) (t:Nat.blt k n.sz=true:=by exact rfl):JR c n σ M L H Bs (RW P l.toArray Q (before m) (eK l) k0 (i::rs)):=
 Yj f a w x y u z ⟨s,q⟩ p t h
def J_ (b:Array V0):ResultVar->Sem V0
 | .tmp t=>pure (b.getD t undef)
 | .cell a t=>do loadVar t (<-asAddr (b.getD a undef))
theorem Dg (b:Func) (a:Array V0):results b a=(do let vs <-b.results.mapM (J_ a);pure (if h:vs.size=1 then vs[0]else .tuple vs)):=rfl
def RV (P:Program) (c:zW) (n:Sz) (σ:Fr) (M L:V6 bF) (b:ResultVar) (v:V0):Prop:=∀a w,Kl n σ a->St c M L w->(J_ a.tmps b).run P w = .ok v w
theorem RV.tmp {t:Tmp} {v:V0} (h:lk σ t=some v):RV P c n σ M L (.tmp t) v:=λa w s _=>by simp[J_,s.slot t v h]
theorem RV.cell [eB P] (i:Nat) {q:Tmp} {T h:V9} {v:Nat} {z:V0} {f:TypeDesc} {b:Nat} {cs:V6 V0} (u:lk σ q=some (.pointer (some ⟨b,0,none⟩))) (j:M[i]?=some (bU b cs h)) (o:eB.tab P T=some ⟨f,cs.length,v,z⟩) (p:Bh f=true):
  RV P c n σ M L (.cell q T) (.agg cs.toArray):=λa w s t=>by
 have⟨F,k⟩:=t.res j;simp[J_,s.slot q _ u,asAddr,abD k o p]
theorem Tf [eB P] (i:Nat) {q:Tmp} {T h:V9} {y A:Nat} {z v:V0} {f:TypeDesc} {b:Nat} (x:lk σ q=some (.pointer (some ⟨b,0,none⟩))) (j:M[i]?=some (bU b [v] h)) (p:eB.tab P T=some ⟨f,y,A,z⟩) (u:Bh f=false):
  RV P c n σ M L (.cell q T) v:=λa w s t=>by
 have⟨F,k⟩:=t.res j;have:=bU.cell k (o:=0) (v:=v) Z;simp[J_,s.slot q _ x,asAddr,loadVar,(eB.ok p).run_agg w,u,load,Sem.run,this]
variable {A:Type} {ret:A->V0} {MO LO:A->V6 bF->V6 bF} {fn:Func}
theorem pL (x:A) (p:ret x = .tuple #[]) (b:fn.results = #[]) (f:Exit) (o:f = .ret\/f = .normal) (k:aW M (MO x [])) (j:aE [] L (LO x [])) (i:n.ds=[]:=by rfl):J c n σ M L (kE P fn (Rc c ret MO LO) f):=λa w s t=>
 afN x f o (λa w s t=>by simp[results,b,p]) k (λ_ h=>h) i a w s (t.weakE (aW.refl _) j)
theorem mS (x:A) {h:ResultVar} {i:V0} (q:ret x=i) (b:fn.results = #[h]) (j:RV P c n σ M L h i) (o:aW M (MO x [])) (k:aE [] L (LO x [])) (f:n.ds=[]:=by rfl):J c n σ M L (kE P fn (Rc c ret MO LO) .ret):=λa w s t=>by
 have p:(results fn a.tmps).run P w = .ok (ret x) w:=by
  have:=j a w s t;simp only[Dg,b];simp[q,this]
 exact body_end (.inl Z) (s.defers.trans f) p ⟨x,rfl,t.weakE o k⟩
theorem gA (x:A) {j k:ResultVar} {o p:V0} (y:ret x = .tuple #[o,p]) (b:fn.results = #[j,k]) (f:RV P c n σ M L j o) (h:RV P c n σ M L k p) (u:aW M (MO x [])) (q:aE [] L (LO x [])) (i:n.ds=[]:=by rfl):J c n σ M L (kE P fn (Rc c ret MO LO) .ret):=λa w s t=>by
 have v:(results fn a.tmps).run P w = .ok (ret x) w:=by
  have f:=f a w s t;have h:=h a w s t;simp only[Dg,b];simp[y,f,h]
 exact body_end (.inl Z) (s.defers.trans i) v ⟨x,rfl,t.weakE u q⟩
theorem Gi (x:A) {k o p:ResultVar} {q u v:V0} (C:ret x = .tuple #[q,u,v]) (b:fn.results = #[k,o,p]) (f:RV P c n σ M L k q) (h:RV P c n σ M L o u) (i:RV P c n σ M L p v) (z:aW M (MO x [])) (y:aE [] L (LO x [])) (j:n.ds=[]:=by rfl):J c n σ M L (kE P fn (Rc c ret MO LO) .ret):=λa w s t=>by
 have B:(results fn a.tmps).run P w = .ok (ret x) w:=by
  have f:=f a w s t;have h:=h a w s t;have i:=i a w s t;simp only[Dg,b];simp[C,f,h,i]
 exact body_end (.inl Z) (s.defers.trans j) B ⟨x,rfl,t.weakE z y⟩
def wI:IntKind->Int->Int
 | .i64,x=>if -9223372036854775808<=x/\x<=9223372036854775807 then x else IntKind.i64.wrap x
 | .u32,x=>if 0<=x/\x<=4294967295 then x else IntKind.u32.wrap x
 |k,x=>k.wrap x
theorem Pu (k:IntKind) (x:Int):wI k x=k.wrap x:=by
 unfold wI;split
 .split
  .rename_i h;exact(QS h.1 h.2).symm
  .rfl
 .split
  .rename_i h;unfold IntKind.wrap;simp only[IntKind.bits,IntKind.signed];simp;omega
  .rfl
 .rfl
theorem BD {t h:V9} {x y:V3} {k:IntKind} {p q:Int} (b:ev σ x=some (.int k p)) (f:ev σ y=some (.int k q)):
  Y P c n σ M L ⟨d,.binOp .add t x y h,ty,pos,aft,g⟩ (.int k (wI k (p+q))):=λa w s _=>by
 simp[Pu,execOp,s.eval b,s.eval f,binOp,Op.intArith,mF]
theorem kT {t h:V9} {x y:V3} {k:IntKind} {p q:Int} (b:ev σ x=some (.int k p)) (f:ev σ y=some (.int k q)):
  Y P c n σ M L ⟨d,.binOp .sub t x y h,ty,pos,aft,g⟩ (.int k (wI k (p - q))):=λa w s _=>by
 simp[Pu,execOp,s.eval b,s.eval f,binOp,Op.intArith,mF]
theorem C_ {t h:V9} {x y:V3} {k:IntKind} {p q:Int} (b:ev σ x=some (.int k p)) (f:ev σ y=some (.int k q)):
  Y P c n σ M L ⟨d,.binOp .mul t x y h,ty,pos,aft,g⟩ (.int k (wI k (p*q))):=λa w s _=>by
 simp[Pu,execOp,s.eval b,s.eval f,binOp,Op.intArith,mF]
theorem afW {t i:V9} {x y:V3} {k:IntKind} {p q:Int} (b:ev σ x=some (.int k p)) (f:ev σ y=some (.int k q)) (h:q≠0):
  Y P c n σ M L ⟨d,.binOp .quo t x y i,ty,pos,aft,g⟩ (.int k (wI k (p.tdiv q))):=λa w s _=>by
 simp[Pu,execOp,s.eval b,s.eval f,binOp,Op.intDiv,mF,h]
def Fv (k:IntKind) (x y:Int):Int:=k.wrap (BitVec.ofInt k.bits x &&& BitVec.ofInt k.bits y).toNat
def bOr (k:IntKind) (x y:Int):Int:=k.wrap (BitVec.ofInt k.bits x ||| BitVec.ofInt k.bits y).toNat
def NA (k:IntKind) (x y:Int):Int:=k.wrap (BitVec.ofInt k.bits x &&& ~~~BitVec.ofInt k.bits y).toNat
def Tx (k:IntKind) (x y:Int):Int:=k.wrap (x*2^(min y.toNat k.bits))
def Rm (k:IntKind) (x y:Int):Int:=x.fdiv (2^(min y.toNat k.bits))
theorem afa {t h:V9} {x y:V3} {k:IntKind} {p q:Int} (b:ev σ x=some (.int k p)) (f:ev σ y=some (.int k q)):
  Y P c n σ M L ⟨d,.binOp .and t x y h,ty,pos,aft,g⟩ (.int k (Fv k p q)):=λa w s _=>by
 simp[execOp,s.eval b,s.eval f,binOp,Op.intBits,mF,Fv]
theorem aiJ {t h:V9} {x y:V3} {k:IntKind} {p q:Int} (b:ev σ x=some (.int k p)) (f:ev σ y=some (.int k q)):
  Y P c n σ M L ⟨d,.binOp .or t x y h,ty,pos,aft,g⟩ (.int k (bOr k p q)):=λa w s _=>by
 simp[execOp,s.eval b,s.eval f,binOp,Op.intBits,mF,bOr]
theorem ZQ {t h:V9} {x y:V3} {k:IntKind} {p q:Int} (b:ev σ x=some (.int k p)) (f:ev σ y=some (.int k q)):
  Y P c n σ M L ⟨d,.binOp .andNot t x y h,ty,pos,aft,g⟩ (.int k (NA k p q)):=λa w s _=>by
 simp[execOp,s.eval b,s.eval f,binOp,Op.intBits,mF,NA]
theorem afd {t j:V9} {x y:V3} {k i:IntKind} {p q:Int} (b:ev σ x=some (.int k p)) (f:ev σ y=some (.int i q)) (h:0<=q):
  Y P c n σ M L ⟨d,.binOp .shl t x y j,ty,pos,aft,g⟩ (.int k (Tx k p q)):=λa w s _=>by
 have:¬q<0:=V7
 simp[execOp,s.eval b,s.eval f,binOp,Op.shift,mF,Tx,this]
theorem afe {t j:V9} {x y:V3} {k i:IntKind} {p q:Int} (b:ev σ x=some (.int k p)) (f:ev σ y=some (.int i q)) (h:0<=q):
  Y P c n σ M L ⟨d,.binOp .shr t x y j,ty,pos,aft,g⟩ (.int k (Rm k p q)):=λa w s _=>by
 have:¬q<0:=V7
 simp[execOp,s.eval b,s.eval f,binOp,Op.shift,mF,Rm,this]
theorem ZS [eB P] {t h:V9} {x:V3} {k f:IntKind} {p:Int} {o q u v:Nat} {z y:V0} (j:ev σ x=some (.int k p)) (i:eB.tab P t=some ⟨.int k,o,q,z⟩) (b:eB.tab P h=some ⟨.int f,u,v,y⟩):
  Y P c n σ M L ⟨d,.convert t h x,ty,pos,aft,g⟩ (.int f (wI f p)):=λa w s _=>by
 simp[Pu,execOp,s.eval j,convert,(eB.ok i).run_und w,(eB.ok b).run_und w,Conv.intToInt]
theorem WE {t:V9} {x:V3} {k:IntKind} {p:Int} (b:ev σ x=some (.int k p)):Y P c n σ M L ⟨d,.unOp .neg t x,ty,pos,aft,g⟩ (.int k (wI k (0 - p))):=λa w s _=>by
 simp[Pu,execOp,s.eval b,Op.unary,Op.intArith]
theorem aey [eB P] {t:V9} {f h:Nat} {z:V0} (b:eB.tab P t=some ⟨.bool,f,h,z⟩) (p q:V4) (w:V2):(Op.equal t (.bool p) (.bool q)).run P w = .ok (p==q) w:=by
 have a:∀m:Nat,(Op.equalIn (m+1) t (.bool p) (.bool q)).run P w = .ok (p==q) w:=λm=>by simp[Op.equalIn,(eB.ok b).run_und w]
 exact a 9999
theorem ZU [eB P] {t k:V9} {x y:V3} {p q:V4} {i j:Nat} {z:V0} (f:ev σ x=some (.bool p)) (h:ev σ y=some (.bool q)) (b:eB.tab P t=some ⟨.bool,i,j,z⟩):
  Y P c n σ M L ⟨d,.binOp .neq t x y k,ty,pos,aft,g⟩ (.bool (p != q)):=λa w s _=>by
 simp[execOp,s.eval f,s.eval h,binOp,eqGuard,aey b,bne]
end
def iW.pair {c d:Type} (a:iW c) (b:iW d):iW (c×d):=⟨a.sz+b.sz,zAw a.pos (Nat.le_add_right _ _),λx=>a.enc x.1++b.enc x.2,λx=>by simp[a.len,b.len]⟩
theorem oJ {c d:Type} {a:iW c} {b:iW d} {r:iN c} {s:iN d} (h:a.Fits r) (k:b.Fits s):(a.pair b).Fits (r.pair s):=by
 have⟨e,f,g,i⟩:=h;have⟨j,l,m,n⟩:=k;refine⟨by simp[iW.pair,iN.pair,e,j],?_,?_,?_⟩
 .rintro w S u x ⟨q,t,rfl,o,p⟩;rw[f o,l p];rfl
 .intro w S x;exact⟨_,_,rfl,g,m⟩
 .intro x;simp only[iW.pair,List.all_append,i,n,Bool.and_self]
section
variable {P:Program} {rd:V1 Nat} {c:zW} {n:Sz} {σ:Fr} {M L M' L':V6 bF} {Q:Exit->Act->V2->Prop} {ops:Array V5} {rest:V6 V5} {K:Act->V2->Prop}
variable {d:V1 Tmp} {D:Nat} {ty:V9} {pos:String} {aft:Array Edge} {g:V1 (Nat×V4)}
variable {α β:Type} {e:iW α} {r:iN α}
theorem Tb {A:Type} {o:V5} {f:A->V0} {i:V6 α} (h:aO P c n σ M L o f (λb=>Ar e (f b) i::M) (λ_=>L)):aO P c n σ M L o (λv:V0=>v) (λv=>Ar e v i::M) (λ_=>L):=λa w s t=>
 pG (λ_ _ ⟨x,j,k⟩=>⟨f x,j,k⟩) (h a w s t)
theorem MJ (e:iW α) (k:Nat) (x:α):(cellsOf e (List.replicate k x))=(List.replicate k (e.enc x)).flatten:=by
 induction k with
 |zero=>rfl
 |succ k a=>simp only[List.replicate_succ,cellsOf,List.flatMap_cons,List.flatten_cons]at *;rw[a]
theorem abi (a:V6 V0) (l:a≠[]) (k:Nat):(madeCells a.toArray (k*a.length)).toList=(List.replicate k a).flatten:=by
 have b:0<a.length:=List.length_pos_iff.2 l;apply List.ext_getElem
 .simp[madeCells]
 .intro i m p;have q:i<k*a.length:=by simpa [madeCells]using m
  have o:i%a.length<a.length:=Nat.mod_lt _ b;have j:∀(k i:Nat) (h:i<((List.replicate k a).flatten).length),((List.replicate k a).flatten)[i]=a[i%a.length]'(Nat.mod_lt _ b):=by
   intro k
   induction k with
   |zero=>intro i h;simp at h
   | succ k ih =>
    intro i h;simp only[List.replicate_succ,List.flatten_cons];by_cases f:i<a.length
    .rw[List.getElem_append_left f];simp[Nat.mod_eq_of_lt f]
    .rw[List.getElem_append_right V7];rw[ih];congr 1;rw[<-Nat.mod_eq_sub_mod V7]
  rw[j];simp[madeCells,o]
theorem oC [eB P] {T E:V9} {G H j f:Nat} {z m:V0} {o:TypeDesc} {x:V3} {k:Int} (a:α)
  (y:eB.tab P T=some ⟨.slice E,G,H,z⟩) (w:eB.tab P E=some ⟨o,j,f,m⟩) (C:ev σ x=some (.int .i64 k)) (s:Nat.ble f 1024=true) (h:0<=k/\k<=1099511627) (q:e.sz=j)
  (F:m.cells=(e.enc a).toArray) (p:(e.enc a).all one=true):
  aO P c n σ M L ⟨d,.makeSlice T x x,ty,pos,aft,g⟩ (λv:V0=>v) (λv=>Ar e v (List.replicate k.toNat a)::M) (λ_=>L):=by
 have t:f<=1024:=by simpa using s
 subst q;have i:e.enc a≠[]:=by
  intro h;have:=e.len a;rw[h]at this;have:=e.pos;simp at *;omega
 refine Tb (aO.makeSlice (List.replicate k.toNat a) y w C h.1 ?_ V7 V8 ?_ ?_)
 .have:=Int.mul_le_mul (show(f:Int)<=1024 by omega) h.2 h.1 Q2;omega
 .rw[F,MJ,<-e.len a];exact abi _ i _
 .rw[MJ,zA2];intro u B;have⟨l,A,b⟩:=List.mem_flatten.1 B;rw[(List.mem_replicate.1 A).2]at b;exact zA2.1 p u b
theorem fX [eB P] {T E:V9} {k x y h A:Nat} {z B:V0} {l:TypeDesc} {j:V6 (Nat×V3)} (f:V6 α) (vs:V6 (Nat×V0))
  (w:j.map (λp=>(p.1,ev σ p.2))=vs.map (λp=>(p.1,some p.2))) (q:eB.tab P T=some ⟨.slice E,x,y,z⟩) (o:eB.tab P E=some ⟨l,h,A,B⟩) (u:Nat.ble (k*h) 16777216=true)
  (b:∀a:Array V0,a.size=k*h->Instr.fill (λi=>some (i*h,h)) a vs=some (cellsOf e f).toArray)
  (s:f.length=k) (t:Nat.ble f.length 140737488355328=true) (m:(cellsOf e f).all one=true):
  aO P c n σ M L ⟨d,.buildSlice T k j.toArray,ty,pos,aft,g⟩ (λv:V0=>v) (λv=>Ar e v f::M) (λ_=>L):=
 Tb (aO.buildSlice f q o u w b s t m)
theorem Hc [eB P] (j:Nat) {T:V9} {w:Nat} {z:V0} {k:TypeDesc} {x y:V3} {v u:V0} {i:Int} {b:V6 α} (f:α) (h:0<=i/\i<b.length) (s:ev σ x=some (IR v (i.toNat*1))) (t:ev σ y=some u)
  (m:M[j]?=some (Ar e v b)) (q:e.enc f=[u]) (a:one u=true) (l:eB.tab P T=some ⟨k,1,w,z⟩) (p:e.sz=1)
  (o:J c n σ (M.set j (Ar e v (b.set i.toNat f))) L (wpList P ops Q rest)):
  J c n σ M L (wpList P ops Q (⟨none,.store T x y,ty,pos,aft,none⟩::rest)):=SR j f s t q a m l p h.1 h.2 o
theorem Fl [eB P] (j q:Nat) {T:V9} {G:Nat} {z:V0} {o:TypeDesc} {x y:V3} {v u:V0} {i:Int} {vs b:V6 V0} {f:V6 (V6 α)} (h:0<=i/\i<f.length) (E:ev σ x=some (IR v (i.toNat*1))) (F:ev σ y=some u)
  (A:M[j]?=some (Ar eD v vs)) (C:M[q]?=some (sR e b f)) (l:vs.set i.toNat u=b) (H:b.length=vs.length) (k:one u=true) (p:eB.tab P T=some ⟨o,1,G,z⟩)
  (B:J c n σ (M.set j (Ar eD v b)) L (wpList P ops Q rest)):
  J c n σ M L (wpList P ops Q (⟨none,.store T x y,ty,pos,aft,none⟩::rest)):=λa w s t=>by
 have m:b.length=f.length:=by have⟨_,h⟩:=t.res C;exact h.1
 exact SR j u E F Z k A p Z h.1 V7 (by rw[l];exact B) a w s t
end
def jG (M L b a:V6 bF):Prop:=∀c w,St c M L w->St c b a w
section
variable {P:Program} {rd:V1 Nat} {c:zW} {n:Sz} {σ:Fr} {M L M' L':V6 bF} {Q:Exit->Act->V2->Prop} {ops:Array V5} {rest:V6 V5} {K:Act->V2->Prop}
variable {d:V1 Tmp} {D:Nat} {ty:V9} {pos:String} {aft:Array Edge} {g:V1 (Nat×V4)}
variable {α β:Type} {e:iW α} {r:iN α}
variable {H Bs:V6 (Nat×V6 bF×V6 bF)} {G:Act->V2->Prop} {GR:Act->V2->V6 (Nat×V2)->V6 (Nat×(V2->Prop))->Prop}
theorem jY (h:jG M L M' L') (k:J c n σ M' L' G):J c n σ M L G:=λa w s t=>k a w s (h c w t)
theorem JR.stp (h:jG M L M' L') (k:JR c n σ M' L' H Bs GR):JR c n σ M L H Bs GR:=λa w X Y s t b f=>k a w X Y s (h c w t) b f
theorem eH {p:Prop} (h:∀c w,St c M L w->p) (k:p->J c n σ M L G):J c n σ M L G:=λa w s t=>k (h c w t) a w s t
theorem kO {p:Prop} (h:∀c w,St c M L w->p) (k:p->JR c n σ M L H Bs GR):JR c n σ M L H Bs GR:=λa w X Y s t b f=>k (h c w t) a w X Y s t b f
theorem Know.one {v:V0} {xs:V6 α} (b:aQ M L (Sl r v xs)):∀c w,St c M L w->one v=true:=λc w t=>by
 have⟨S,h,a,f,_⟩:=b.st t;rw[f];rfl
theorem nT (q:Nat) {vs:V6 V0} {xss:V6 (V6 α)} (a:M[q]?=some (sR e vs xss)):∀c w,St c M L w->vs.length=xss.length:=λc w t=>by
 have⟨_,h⟩:=t.res a;exact h.1
theorem jG.add {m:bF} (h:∀w,m.p w (λ_=>False)):jG M L (m::M) L:=λc w t=>by
 have⟨v,F,l,s⟩:=t;refine⟨v,λi k=>match i with|0=>False|i+1=>F i k,⟨?_,?_,?_⟩,λf u=>bF.same (s f u) (λk b=>⟨b.1,λi a=>by
   cases i with
   |zero=>exact a
   |succ i=>exact b.2 i a⟩) (λ_ _ _=>rfl)⟩
 .intro i x o;cases i with
  |zero=>simp at o;subst o;exact h w
  |succ i=>exact l.res i x (by simpa using o)
 .intro i k b;cases i with
  |zero=>exact b.elim
  |succ i=>exact l.rng i k b
 .intro i j k a q;cases i with
  |zero=>exact a.elim
  |succ i=>
   cases j with
   |zero=>exact q.elim
   |succ j=>exact congrArg (· + 1) (l.dis i j k a q)
theorem qL (e:iW α):jG M L (Ar e (.slice none 0 0) []::M) L:=jG.add λ_=>⟨V8,rfl,.inl ⟨rfl,rfl⟩⟩
theorem Ei (e:iW α) (k:Nat):jG M L (sR e (List.replicate k (.slice none 0 0)) (List.replicate k [])::M) L:=jG.add λw=>by
 refine⟨V8,λ_ _=>False,λi v f a b=>?_,λ_ _ h=>h,λ_ _ _ h=>h.elim⟩
 rw[List.getElem?_replicate]at a b;split at a
 .rename_i h;rw[if_pos h]at b;cases a;cases b;exact⟨V8,rfl,.inl ⟨rfl,rfl⟩⟩
 .cases a
theorem Vh (i j:Nat) {u:V0} {vs:V6 V0} {l:V6 (V6 α)} {y:V6 α} (s:Nat.beq i j=false) (R:M[i]?=some (sR e vs l)) (S:M[j]?=some (Ar e u y)):jG M L ((M.set i (sR e (vs++[u]) (l++[y]))).eraseIdx j) L:=λc w t=>
 t.merge i j (λe=>by subst e;simp at s) R S (by
  rintro w T E ⟨o,G,F,p,I⟩ O z;refine⟨by simp[o],λq k=>(q<vs.length/\G q k)\/(q=vs.length/\E k),?_,?_,?_⟩
  .intro q v C h m;by_cases A:q<vs.length
   .rw[zAe A]at h;rw[zAe V7]at m;exact bF.same (f:=Ar e v C) (F q v C h m) (λk a=>.inl ⟨A,a⟩) (λ_ _ _=>rfl)
   .rw[zA9 V7]at h;rw[zA9 V7]at m;have x:q - vs.length=0:=by have:=bM h;simp at this;omega
    rw[x]at h;rw[show q - l.length=0 by omega]at m;simp at h m;subst h;subst m;exact bF.same (f:=Ar e u y) O (λk a=>.inr ⟨V7,a⟩) (λ_ _ _=>rfl)
  .rintro q k (⟨_,a⟩|⟨_,a⟩)
   .exact .inl (p q k a)
   .exact .inr a
  .rintro q B k (⟨J,a⟩|⟨J,a⟩) (⟨N,b⟩|⟨N,b⟩)
   .exact I q B k a b
   .exact absurd b (z k (p q k a))
   .exact absurd a (z k (p B k b))
   .omega)
theorem Oe (i j:Nat) {u:V0} {k:Int} {vs:V6 V0} {a:V6 (V6 α)} {f:V6 α} (b:Nat.beq i j=false) (l:M[i]?=some (sR e vs a)) (m:M[j]?=some (Ar e u f)) (h:0<=k/\k<a.length):
  jG M L ((M.set i (sR e (vs.set k.toNat u) (a.set k.toNat f))).eraseIdx j) L:=λc w t=>by
 have o:=nT i l c w t;exact ZA (n:=⟨0,[]⟩) (σ:=[]) (G:=λ_ w=>St c ((M.set i (sR e (vs.set k.toNat u) (a.set k.toNat f))).eraseIdx j) L w) (k:=k) i j b l m h.1 V7 (λ_ _ _ t=>t) ⟨#[],[]⟩ w ⟨rfl,rfl,λ_ _ h=>by simp[lk]at h⟩ t
theorem aE.tail (l:V6 bF) {a:V6 bF}:aE M (l++a) a:=λf b=>by
 have⟨j,h⟩:=List.getElem?_of_mem (List.mem_append_right l b);exact aQ.fact j h
theorem bS {l:V6 V5} {m:V6 Nat} {b:Nat} {a:V6 Nat} (k:Nat) (i:a.all (Nat.ble b)=true) (f:a.map (l[·]?)=(l.drop k).map some) (h:J c n σ M L (wpList P l.toArray Q (l.drop k))):JR c n σ M L H Bs (RW P l.toArray Q (before m) (eK l) b a):=JR.tail i f h
def Mw (v:V0) (l h b:Nat):V0:=match v with
 | .slice a _ cap=>.slice (if cap=l then a else a.map (·.add (l*b))) (h - l) (cap - l)
 |v=>v
theorem LG.part {w:World} {S:Nat->Prop} {v:V0} {m:List α} (I:LG r w S v m) {l h:Nat} (R:l<=h) (O:h<=m.length):LG r w S (Mw v l h r.sz) ((m.take h).drop l):=by
 obtain⟨a,o,rfl,N,y⟩:=I;have f:((m.take h).drop l).length=h - l:=by simp;omega
 by_cases q:(m.take h).drop l=[]
 .rw[q]at f ⊢;refine⟨_,_,by simp only[Mw];congr 1;simpa using f.symm,by simp,.inl Z⟩
 .rcases y with rfl|⟨b,k,rfl,B,y⟩
  .simp at q
  .have E:l<h:=by
    rcases zAy l h with z|z
    .exact z
    .exfalso;apply q;apply zAl;omega
   have C:o≠l:=by omega
   refine⟨some ⟨b,k+l*r.sz,none⟩,o - l,by simp[Mw,C,f,gQ],by omega,.inr ⟨b,k+l*r.sz,rfl,B,λi x p=>?_⟩⟩
   have t:m[l+i]?=some x:=by
    rw[zAq,zAn]at p;split at p
    .exact p
    .cases p
   obtain⟨A,s,F⟩:=y (l+i) x t;refine⟨A,λj u J=>?_,F⟩
   have:=s j u J;rw[zAt]at this;rw[show k+l*r.sz+(i*r.sz+j)=k+(l*r.sz+i*r.sz+j) by omega];exact this
theorem aQ.part {v:V0} {a:V6 α} (b:aQ M L (Sl r v a)) {l h:Int} {q:Nat} (f:r.sz=q) (j:0<=l/\l<=h/\h<=a.length):aQ M L (Sl r (Mw v l.toNat h.toNat q) ((a.take h.toNat).drop l.toNat)):=by
 subst f;exact b.mono λi=>LG.part i V7 V7
theorem Yn [eB P] {T E:V9} {J N o O:Nat} {z R:V0} {q:TypeDesc} {x m l:V3} {v:V0} {i k:Int} {p:V6 α} (I:ev σ x=some v) (j:ev σ m=some (.int .i64 i)) (f:ev σ l=some (.int .i64 k)) (C:aQ M L (Sl r v p))
  (B:eB.tab P T=some ⟨.slice E,J,N,z⟩) (A:eB.tab P E=some ⟨q,o,O,R⟩) (h:0<=i/\i<=k/\k<=p.length):Y P c n σ M L ⟨d,.slice T x (some m) (some l) none,ty,pos,aft,g⟩ (Mw v i.toNat k.toNat o):=λa w s t=>by
 have⟨S,U,b,F,V,_⟩:=C.st t;subst F;have u:0<=k/\k<=(b:Int):=V7
 have y:0<=i/\i<=((k.toNat:Nat):Int):=V7
 simp[execOp,s.eval I,s.eval j,s.eval f,Instr.sliceAt,Instr.slice,(eB.ok B).run_und w,Instr.sliceBounds,Instr.sliceBound,asIntOf,(eB.ok A).run_size w,Mw,u,y];omega
theorem II [eB P] {T E:V9} {B C j F:Nat} {z I:V0} {m:TypeDesc} {x i:V3} {v:V0} {k:Int} {l:V6 α} (A:ev σ x=some v) (f:ev σ i=some (.int .i64 k)) (u:aQ M L (Sl r v l))
  (q:eB.tab P T=some ⟨.slice E,B,C,z⟩) (p:eB.tab P E=some ⟨m,j,F,I⟩) (h:0<=(0:Int)/\0<=k/\k<=l.length):Y P c n σ M L ⟨d,.slice T x none (some i) none,ty,pos,aft,g⟩ (Mw v (0:Int).toNat k.toNat j):=λa w s t=>by
 have⟨S,J,b,y,N,_⟩:=u.st t;subst y;have o:0<=k/\k<=(b:Int):=V7
 simp[execOp,s.eval A,s.eval f,Instr.sliceAt,Instr.slice,(eB.ok q).run_und w,Instr.sliceBounds,Instr.sliceBound,asIntOf,(eB.ok p).run_size w,Mw,o]
theorem ZV [eB P] {T E:V9} {B C k F:Nat} {z I:V0} {m:TypeDesc} {x j:V3} {v:V0} {i:Int} {b:V6 α} (A:ev σ x=some v) (f:ev σ j=some (.int .i64 i)) (u:aQ M L (Sl r v b))
  (q:eB.tab P T=some ⟨.slice E,B,C,z⟩) (p:eB.tab P E=some ⟨m,k,F,I⟩) (h:0<=i/\i<=(b.length:Int)/\(b.length:Int)<=b.length):Y P c n σ M L ⟨d,.slice T x (some j) none none,ty,pos,aft,g⟩ (Mw v i.toNat (b.length:Int).toNat k):=λa w s t=>by
 have⟨S,J,l,y,N,_⟩:=u.st t;subst y;have o:0<=i/\i<=(b.length:Int):=V7
 simp[execOp,s.eval A,s.eval f,Instr.sliceAt,Instr.slice,(eB.ok q).run_und w,Instr.sliceBounds,Instr.sliceBound,asIntOf,(eB.ok p).run_size w,Mw,o]
theorem eN [eB P] {T h:V9} {q u:Nat} {z:V0} {f:TypeDesc} {x:V3} {b o:Nat} {cs:V6 V0} {v:V0} (p:ev σ x=some (.pointer (some ⟨b,o,none⟩)))
  (j:aQ M L (bU b cs h)) (k:eB.tab P T=some ⟨f,q,u,z⟩) (l:Bh f=false) (m:cs[o]?=some v):Y P c n σ M L ⟨d,.load T x,ty,pos,aft,g⟩ v:=λa w s t=>by
 have⟨F,i⟩:=j.st t;simp[execOp,s.eval p,zQ (eB.ok k) l (bU.cell i m)]
theorem jA [eB P] {T E:V9} {k v A f B:Nat} {z C:V0} {l:TypeDesc} {x y:V3} {b:Nat} {i:Int} (q:ev σ x=some (.pointer (some ⟨b,0,none⟩))) (u:ev σ y=some (.int .i64 i))
  (p:eB.tab P T=some ⟨.array k E,v,A,z⟩) (o:eB.tab P E=some ⟨l,f,B,C⟩) (m:(f==0)=false) (h:0<=i/\i<(k:Int)):
  Y P c n σ M L ⟨d,.indexAddr T x y,ty,pos,aft,g⟩ (.pointer (some ⟨b,i.toNat*f,none⟩)):=λa w s t=>by
 have j:f≠0:=by simpa using m
 simp[execOp,s.eval q,s.eval u,Instr.indexAt,asIntOf,(eB.ok p).run_und w,h,Instr.sureAddr,(eB.ok o).run_size w,j,gQ]
end
section
variable {P:Program} {rd:V1 Nat} {c:zW} {n:Sz} {σ:Fr} {M L M' L':V6 bF} {Q:Exit->Act->V2->Prop} {ops:Array V5} {rest:V6 V5} {K:Act->V2->Prop}
variable {d:V1 Tmp} {D:Nat} {ty:V9} {pos:String} {aft:Array Edge} {g:V1 (Nat×V4)}
variable {α β:Type} {e:iW α} {r:iN α}
theorem aR.b {A:Nat->V4} {f a M L:V6 bF} {j:Nat} {H:V6 (Nat×V6 bF×V6 bF)} (h:A j=true) (k:aR A f a H):aR A f a ((j,M,L)::H):=⟨.inl h,k⟩
theorem aR.h {A:Nat->V4} {b a M L:V6 bF} {j:Nat} {H:V6 (Nat×V6 bF×V6 bF)} (h:aW M b) (f:jS L a) (k:aR A b a H):aR A b a ((j,M,L)::H):=⟨.inr ⟨h,f⟩,k⟩
theorem aR.z {A:Nat->V4} {b a:V6 bF}:aR A b a []:=trivial
theorem nS.b {A:Nat->V4} {f a M L:V6 bF} {j:Nat} {H:V6 (Nat×V6 bF×V6 bF)} (h:A j=true) (k:nS A M L H):nS A M L ((j,f,a)::H):=⟨.inl h,k⟩
theorem nS.h {A:Nat->V4} {b a M L:V6 bF} {j:Nat} {H:V6 (Nat×V6 bF×V6 bF)} (h:aW M b) (f:jS L a) (k:nS A M L H):nS A M L ((j,b,a)::H):=⟨.inr ⟨h,f⟩,k⟩
theorem nS.z {A:Nat->V4} {M L:V6 bF}:nS A M L []:=trivial
theorem cI {v:V0} {vs:V6 V0} (h:one v=true) (k:vs.all one=true):(v::vs).all one=true:=by simp[h,k]
theorem cL (k:IntKind) (x:Int):(Value.int k x).cells = #[.int k x]:=rfl
theorem b_ (b:V4):(Value.bool b).cells = #[.bool b]:=rfl
theorem bW (a:V1 Addr) (l k:Nat):(Value.slice a l k).cells = #[.slice a l k]:=rfl
theorem cM (a:V1 Addr):(Value.pointer a).cells = #[.pointer a]:=rfl
theorem cN (a:ByteArray):(Value.string a).cells = #[.string a]:=rfl
theorem cA (f:Fn) (a b:Array V0):(Value.func f a b).cells = #[.func f a b]:=rfl
theorem Gk (q:Nat) {vs:V6 V0} {a:V6 (V6 α)} {k:Int} {u:V0} (s:M[q]?=some (sR e (vs.set k.toNat u) a)) (h:0<=k/\k<a.length):∀c w,St c M L w->Go.Sx.one u=true:=λc w t=>by
 have⟨S,p,x,m,_⟩:=t.res s;have f:k.toNat<vs.length:=by simp at p;omega
 have⟨_,_,o⟩:=m k.toNat u _ (by rw[zAh f]) (zA1 V7);rcases o with⟨i,_⟩|⟨b,v,j,T,l,i,_⟩<;>(rw[i];rfl)
theorem Yl [eB P] [Inhabited α] {T o:V9} {C:Nat} {z:V0} {l:TypeDesc} {x:V3} {b k:Nat} {i:Int} {f:V6 α} {u:V0} (m:ev σ x=some (.pointer (some ⟨b,i.toNat*1,none⟩)))
  (q:aQ M L (bU b (cellsOf e f) o)) (v:eB.tab P T=some ⟨l,1,C,z⟩) (y:Bh l=false) (A:e.sz=1) (B:(e.enc (at' f i))=[u]) (h:(0<=i/\i<(k:Int))/\f.length=k):
  Y P c n σ M L ⟨d,.load T x,ty,pos,aft,g⟩ u:=λa w s t=>by
 have⟨F,p⟩:=q.st t;have j:=Bp e f i.toNat (at' f i) (jI h.1.1 V7) 0 u (by rw[B];rfl);rw[A,Nat.add_zero]at j;rw[Nat.mul_one]at m j;simp[execOp,s.eval m,zQ (eB.ok v) y (bU.cell p j)]
theorem Oa [eB P] (q:Nat) {T j:V9} {B:Nat} {z:V0} {p:TypeDesc} {x y:V3} {b k:Nat} {i:Int} {a:V6 α} {u:V0} (o:α) (h:(0<=i/\i<(k:Int))/\a.length=k) (m:ev σ x=some (.pointer (some ⟨b,i.toNat*1,none⟩))) (A:ev σ y=some u)
  (s:M[q]?=some (bU b (cellsOf e a) j)) (w:e.enc o=[u]) (f:one u=true) (t:eB.tab P T=some ⟨p,1,B,z⟩) (l:e.sz=1)
  (v:J c n σ (M.set q (bU b (cellsOf e (a.set i.toNat o)) j)) L (wpList P ops Q rest)):
  J c n σ M L (wpList P ops Q (⟨none,.store T x y,ty,pos,aft,none⟩::rest)):=by
 rw[Nat.mul_one]at m;refine i_ q m A f s t ?_ ?_
 .have:=gH e a;rw[l]at this;rw[zAp];omega
 .rw[<-HN l w];exact v
end
end Go.Sx
namespace Go.Sx
section
abbrev vI (x:Int):V0:= .int .i64 x
abbrev vU (x:Int):V0:= .int .u32 x
abbrev vP (b:Nat):V0:= .pointer (some ⟨b,0,none⟩)
open Go.RowKit
variable {P:Program} {rd:V1 Nat} {c:zW} {n:Sz} {σ:Fr} {M L:V6 bF} {Q:Exit->Act->V2->Prop} {ops:Array V5} {rest:V6 V5} {d:Nat} {ty:V9} {pos:String} {aft:Array Edge} {x y:V3} {v:V0} {K:Act->V2->Prop}
theorem aA (h:(ev σ x,Nat.blt d n.sz)=(some v,true)) (k:J c n ((d,v)::σ) M L (wpList P ops Q rest)):J c n σ M L (wpList P ops Q (⟨some d,.move x,ty,pos,aft,none⟩::rest)):=aC (fN (Prod.mk.inj h).1) (Prod.mk.inj h).2 k
theorem aB (h:(ev σ x,Nat.blt d n.sz)=(some v,true)) (k:J c n ((d,v)::σ) M L (wpList P ops Q rest)):J c n σ M L (wpList P ops Q (⟨some d,.assign x,ty,pos,aft,none⟩::rest)):=aC (BE (Prod.mk.inj h).1) (Prod.mk.inj h).2 k
theorem bD [eB P] {T:V9} {r s i t:Nat} {z w:V0} {e:Array Field} {p u q:String} {m:V4} {g a j:Nat} {l:TypeDesc} {b o f:Nat} (h:(ev σ x,eB.tab P T,e[f]?,eB.tab P g,i==0,Nat.blt d n.sz)=(some (.pointer (some ⟨b,o,none⟩)),some ⟨.struct e,r,s,z⟩,some ⟨p,g,a,m,u,q,j⟩,some ⟨l,i,t,w⟩,false,true)) (k:J c n ((d,.pointer (some ⟨b,o+a,none⟩))::σ) M L (wpList P ops Q rest)):J c n σ M L (wpList P ops Q (⟨some d,.fieldAddr T x f,ty,pos,aft,none⟩::rest)):=by
  simp only[Prod.mk.injEq]at h;exact aC (bR h.1 h.2.1 h.2.2.1 h.2.2.2.1 h.2.2.2.2.1) h.2.2.2.2.2 k
theorem bY [eB P] (i:Nat) {T e:V9} {f g:Nat} {z:V0} {a:TypeDesc} {b o:Nat} {cs:V6 V0} (h:(ev σ x,M[i]?,eB.tab P T,Bh a,cs[o]?,Nat.blt d n.sz)=(some (.pointer (some ⟨b,o,none⟩)),some (bU b cs e),some ⟨a,f,g,z⟩,false,some v,true)) (k:J c n ((d,v)::σ) M L (wpList P ops Q rest)):J c n σ M L (wpList P ops Q (⟨some d,.load T x,ty,pos,aft,none⟩::rest)):=by
  simp only[Prod.mk.injEq]at h;exact aC (bX i h.1 h.2.1 h.2.2.1 h.2.2.2.1 h.2.2.2.2.1) h.2.2.2.2.2 k
theorem fQ [eB P] (i:Nat) {T e:V9} {f:Nat} {z:V0} {a:TypeDesc} {b:Nat} {cs:V6 V0} (h:(ev σ x,M[i]?,eB.tab P T,Bh a,Nat.blt d n.sz)=(some (.pointer (some ⟨b,0,none⟩)),some (bU b cs e),some ⟨a,cs.length,f,z⟩,true,true)) (k:J c n ((d,.agg cs.toArray)::σ) M L (wpList P ops Q rest)):J c n σ M L (wpList P ops Q (⟨some d,.load T x,ty,pos,aft,none⟩::rest)):=by
  simp only[Prod.mk.injEq]at h;exact aC (iC i h.1 h.2.1 h.2.2.1 h.2.2.2.1) h.2.2.2.2 k
theorem aD {e:Op} {j:Nat} {b a:V4} (h:(gv ops σ j,a==b,Nat.blt d n.sz)=(some a,false,true)) (k:J c n ((d,undef)::σ) M L (wpList P ops Q rest)):J c n σ M L (wpList P ops Q (⟨some d,e,ty,pos,aft,some (j,b)⟩::rest)):=by
  simp only[Prod.mk.injEq]at h;exact Zx h.1 h.2.1 h.2.2 k
theorem bH {j:Nat} {b:V4} (h:(gv ops σ j,ev σ x,Nat.blt d n.sz)=(some b,some v,true)) (k:J c n ((d,v)::σ) M L (wpList P ops Q rest)):J c n σ M L (wpList P ops Q (⟨some d,.move x,ty,pos,aft,some (j,b)⟩::rest)):=by
  simp only[Prod.mk.injEq]at h;exact aF h.1 (fN h.2.1) h.2.2 k
theorem cX {t a:V9} {i:IntKind} {p q:Int} (h:(ev σ x,ev σ y,Nat.blt d n.sz)=(some (.int i p),some (.int i q),true)) (k:J c n ((d,.bool (decide (p<q)))::σ) M L (wpList P ops Q rest)):J c n σ M L (wpList P ops Q (⟨some d,.binOp .lss t x y a,ty,pos,aft,none⟩::rest)):=by
  simp only[Prod.mk.injEq]at h;exact aC (Hg h.1 h.2.1) h.2.2 k
theorem bP {t a:V9} {i:IntKind} {p q:Int} (h:(ev σ x,ev σ y,Nat.blt d n.sz)=(some (.int i p),some (.int i q),true)) (k:J c n ((d,.bool (decide (p=q)))::σ) M L (wpList P ops Q rest)):J c n σ M L (wpList P ops Q (⟨some d,.binOp .eql t x y a,ty,pos,aft,none⟩::rest)):=by
  simp only[Prod.mk.injEq]at h;exact aC (oV h.1 h.2.1) h.2.2 k
theorem cP {t a:V9} {i:IntKind} {p q:Int} (h:(ev σ x,ev σ y,Nat.blt d n.sz)=(some (.int i p),some (.int i q),true)) (k:J c n ((d,.int i (wI i (p+q)))::σ) M L (wpList P ops Q rest)):J c n σ M L (wpList P ops Q (⟨some d,.binOp .add t x y a,ty,pos,aft,none⟩::rest)):=by
  simp only[Prod.mk.injEq]at h;exact aC (BD h.1 h.2.1) h.2.2 k
theorem cdI {e b:Code} {p:Prop} {_:Decidable p} {f:Type} {u w:V1 f} {r:f} (h:(if p then u else w)=some r) (j:ev σ x=some (.bool (decide p))) (i:p->u=some r->J c n σ M L (e.wpr rd P Q)) (g:¬p->w=some r->J c n σ M L (b.wpr rd P Q)):J c n σ M L ((Code.cond x e b).wpr rd P Q):=acq j (λa=>i a (Bt a h)) (λa=>g a (MP a h))
theorem eF {b a:Code} {p:Prop} {_:Decidable p} {e:Type} {u w:V1 e} {r:e} (h:(if p then u else w)=some r) (i:ev σ x=some (.bool (decide p))) (g:u=some r->J c n σ M L (b.wpr rd P Q)) (f:w=some r->J c n σ M L (a.wpr rd P Q)):J c n σ M L ((Code.cond x b a).wpr rd P Q):=cdI h i (λ_=>g) (λ_=>f)
theorem iA {f e:Code} {b:V4} {g:Type} {u w:V1 g} {r:g} (h:(if b=true then u else w)=some r) (k:ev σ x=some (.bool b)) (j:b=true->u=some r->J c n σ M L (f.wpr rd P Q)) (i:b=false->w=some r->J c n σ M L (e.wpr rd P Q)):J c n σ M L ((Code.cond x f e).wpr rd P Q):=QX k (λa=>j a (Bt a h)) (λa=>i a (w_ a h))
theorem mL {d:V1 Tmp} {f:Op} {j e:Nat} {p:Prop} {_:Decidable p} {b:V4} {i:Type} {u w:V1 i} {r:i} (h:(if p then u else w)=some r) (g:((ops[j]?).bind (·.dst),lk σ e)=(some e,some (.bool (decide p)))) (l:p->u=some r->J c n ((e,.bool true)::σ) M L (wpList P ops Q (⟨d,f,ty,pos,aft,some (j,b)⟩::rest))) (k:¬p->w=some r->J c n ((e,.bool false)::σ) M L (wpList P ops Q (⟨d,f,ty,pos,aft,some (j,b)⟩::rest))):J c n σ M L (wpList P ops Q (⟨d,f,ty,pos,aft,some (j,b)⟩::rest)):=Zw (Prod.mk.inj g).1 (Prod.mk.inj g).2 (λa=>l a (Bt a h)) (λa=>k a (MP a h))
theorem aM {ops:Array V5} (h:J c n σ M L K):J c n σ M L (wpList P ops (Exit.then K Q) []):=h
theorem aT {id:Nat} {l:V6 V5} {z:Code} (h:J c n σ M L (wpList P l.toArray (Exit.then (z.wpr rd P Q) Q) l)) (a:l.all lW=true:=by rfl):J c n σ M L ((Code.seq (Code.region id l.toArray false) z).wpr rd P Q):=aI (aL h a)
theorem Q3 {id:Nat} {z:Code} (h:(ev σ x,Nat.blt d n.sz)=(some v,true)) (k:J c n ((d,v)::σ) M L (z.wpr rd P Q)):J c n σ M L ((Code.seq (Code.region id [⟨some d,.assign x,ty,pos,aft,none⟩].toArray false) z).wpr rd P Q):=aT (aB h (aM k))
theorem Q5 {id:Nat} {l:List Oper} {z:Code} (h:(ev σ x,Nat.blt d n.sz)=(some v,true)) (k:J c n ((d,v)::σ) M L (wpList P (⟨some d,.move x,ty,pos,aft,none⟩::l).toArray (Exit.then (z.wpr rd P Q) Q) l)) (a:l.all lW=true:=by rfl):J c n σ M L ((Code.seq (Code.region id (⟨some d,.move x,ty,pos,aft,none⟩::l).toArray false) z).wpr rd P Q):=aT (aA h k) a
theorem Q4 (h:(ev σ x,Nat.blt d n.sz)=(some v,true)) (k:J c n ((d,v)::σ) M L K):J c n σ M L (wpList P ops (Exit.then K Q) [⟨some d,.assign x,ty,pos,aft,none⟩]):=aB h (aM k)
variable {A B:Type} {ret:Unit->V0} {MO LO:Unit->V6 bF->V6 bF} {fn:Func} {C:A->Prop} {σI:A->B->Fr} {MI LI:A->B->V6 bF}
theorem gM {t:Tmp} (h:(ret (),fn.results,lk σ t,MO () [],LO () [],n.ds)=(v,#[.tmp t],some v,M,[],[])):J c n σ M L (kE P fn (Rc c ret MO LO) .ret):=by
  simp only[Prod.mk.injEq]at h;exact mS () h.1 h.2.1 (RV.tmp h.2.2.1) (h.2.2.2.1▸aW.refl _) (by rw[h.2.2.2.2.1];exact aE.nil) h.2.2.2.2.2
theorem mK {t:Tmp} (h:(ret (),fn.results,lk σ t,MO () [],LO () [],n.ds)=(v,#[.tmp t],some v,[],[],[])):J c n σ M L (kE P fn (Rc c ret MO LO) .ret):=by
  simp only[Prod.mk.injEq]at h;exact mS () h.1 h.2.1 (RV.tmp h.2.2.1) (by rw[h.2.2.2.1];exact aW.nil) (by rw[h.2.2.2.2.1];exact aE.nil) h.2.2.2.2.2
theorem JK {x:Code} (C:A->Prop) (σI:A->B->Fr) (MI:A->B->V6 bF) (e:J c n σ M L (x.wpr rd P (Exit.then (ZH c n C σI MI (λ_ _=>L)) Q))) (f:∀a b,C a->J c n (σI a b) (MI a b) L K):J c n σ M L (x.wpr rd P (Exit.then K Q)):=xD C σI MI (λ_ _=>L) e f
theorem eP {R:Type} {f:Code} (e:A->(A->V1 R)->V1 R) {r:R} {U:Nat} (σI:A->B->Fr) (MI:A->B->V6 bF) (i:A) (j:B) (h:bG e U i=some r) (m:Ej σ (σI i j)) (l:aW M (MI i j)) (g:∀k a b,e a (bG e k)=some r->J c n (σI a b) (MI a b) L (f.wpr rd P (Exit.then (acp c n e r σI MI (λ_ _=>L) k) Q))):J c n σ M L ((Code.loop f).wpr rd P Q):=Dp e σI MI (λ_ _=>L) i j h m l (aE.refl _ _) g
theorem cC {x:Code} (C:A->Prop) (σI:A->Unit->Fr) (MI:A->Unit->V6 bF) (e:J c n σ M L (x.wpr rd P (Exit.then (ZH c n C σI MI (λ_ _=>L)) Q))) (f:∀a b,C a->J c n (σI a b) (MI a b) L K):J c n σ M L (x.wpr rd P (Exit.then K Q)):=JK C σI MI e f
theorem bK (h:J c n σ M L K):J c n σ M L (Code.skip.wpr rd P (Exit.then K Q)):=cZ h
theorem jZ {id:Nat} (h:J c n σ M L K):J c n σ M L (Exit.inBlock id (Exit.then K Q) .normal):=h
theorem fK {id:Nat} {a b:Act->V2->Prop} (h:J c n σ M L K):J c n σ M L ((Code.exit id).wpr rd P (Exit.then a (Exit.then b (Exit.inBlock id (Exit.then K Q))))):=uS (gY (gY (BC (HD h))))
theorem cF (x:A) (y:B) (a:C x) (b:Ej σ (σI x y)) (h:(MI x y,LI x y)=(M,L)):J c n σ M L (ZH c n C σI MI LI):=bQ x y a b ((Prod.mk.inj h).1▸aW.refl _) ((Prod.mk.inj h).2▸aE.refl _ _)
theorem Ac {R:Type} {a:A->(A->V1 R)->V1 R} {r:R} {k:Nat} (x:A) (y:B) (h:bG a k x=some r) (b:Ej σ (σI x y)) (e:(MI x y,LI x y)=(M,L)):J c n σ M L (acp c n a r σI MI LI k):=fI x y h b ((Prod.mk.inj e).1▸aW.refl _) ((Prod.mk.inj e).2▸aE.refl _ _)
theorem zB8 {A:Type} {ret:A->V0} {MO:A->V6 bF->V6 bF} {f:FuncId} {h:V6 V3} {vs:V6 V0} {a:Array V9} {e:V6 bF} {d:V1 Tmp} {g:V1 (Nat×V4)} (j:aX P f) (k:aZ P f vs.toArray e ret MO (λ_ l=>l)) (m:h.map (ev σ)=vs.map some) (i:aE M L e) (b:∀x l,MO x l=MO x []++l:=by exact λ_ _=>rfl):aO P c n σ M L ⟨d,.call ⟨.value (.func f),h.toArray,a⟩,ty,pos,aft,g⟩ ret (λx=>MO x M) (λ_=>L):=HF j k m i b
variable {l:V6 V5} {m:V6 Nat} {k0:Nat} {Bs:V6 (Nat×V6 bF×V6 bF)} {rs:V6 Nat} {i:Nat}
theorem bE (h:(l[i]?,ev σ x,Nat.blt i k0,Nat.blt d n.sz)=(some ⟨some d,.move x,ty,pos,aft,none⟩,some v,true,true)) (k:JR c n ((d,v)::σ) M L [] ((i,[],[])::Bs) (RW P l.toArray Q (before m) (eK l) k0 rs)):JR c n σ M L [] Bs (RW P l.toArray Q (before m) (eK l) k0 (i::rs)):=by
  simp only[Prod.mk.injEq]at h;exact bI h.1 aW.nil jS.nil (fN h.2.1) aR.z k h.2.2.1 Z h.2.2.2
theorem dA [eB P] {T:V9} {u w j D:Nat} {z F:V0} {e:Array Field} {s E t:String} {r:V4} {g a p:Nat} {q:TypeDesc} {b o f:Nat} (h:(l[i]?,ev σ x,eB.tab P T,e[f]?,eB.tab P g,j==0,Nat.blt i k0,Nat.blt d n.sz)=(some ⟨some d,.fieldAddr T x f,ty,pos,aft,none⟩,some (.pointer (some ⟨b,o,none⟩)),some ⟨.struct e,u,w,z⟩,some ⟨s,g,a,r,E,t,p⟩,some ⟨q,j,D,F⟩,false,true,true)) (k:JR c n ((d,.pointer (some ⟨b,o+a,none⟩))::σ) M L [] ((i,[],[])::Bs) (RW P l.toArray Q (before m) (eK l) k0 rs)):JR c n σ M L [] Bs (RW P l.toArray Q (before m) (eK l) k0 (i::rs)):=by
  simp only[Prod.mk.injEq]at h;exact bI h.1 aW.nil jS.nil (bR h.2.1 h.2.2.1 h.2.2.2.1 h.2.2.2.2.1 h.2.2.2.2.2.1) aR.z k h.2.2.2.2.2.2.1 Z h.2.2.2.2.2.2.2
theorem iH [eB P] (p:Nat) {T a:V9} {f g:Nat} {z:V0} {e:TypeDesc} {b o:Nat} {cs:V6 V0} (h:(l[i]?,ev σ x,M[p]?,eB.tab P T,Bh e,cs[o]?,Nat.blt i k0,Nat.blt d n.sz)=(some ⟨some d,.load T x,ty,pos,aft,none⟩,some (.pointer (some ⟨b,o,none⟩)),some (bU b cs a),some ⟨e,f,g,z⟩,false,some v,true,true)) (k:JR c n ((d,v)::σ) M L [] ((i,[bU b cs a],[])::Bs) (RW P l.toArray Q (before m) (eK l) k0 rs)):JR c n σ M L [] Bs (RW P l.toArray Q (before m) (eK l) k0 (i::rs)):=by
  simp only[Prod.mk.injEq]at h;exact bI h.1 (aW.cons p h.2.2.1 aW.nil) jS.nil (bX 0 h.2.1 Z h.2.2.2.1 h.2.2.2.2.1 h.2.2.2.2.2.1) aR.z k h.2.2.2.2.2.2.1 Z h.2.2.2.2.2.2.2
theorem qY [eB P] (p:Nat) {T a:V9} {f:Nat} {z:V0} {e:TypeDesc} {b:Nat} {cs:V6 V0} (h:(l[i]?,ev σ x,M[p]?,eB.tab P T,Bh e,Nat.blt i k0,Nat.blt d n.sz)=(some ⟨some d,.load T x,ty,pos,aft,none⟩,some (.pointer (some ⟨b,0,none⟩)),some (bU b cs a),some ⟨e,cs.length,f,z⟩,true,true,true)) (k:JR c n ((d,.agg cs.toArray)::σ) M L [] ((i,[bU b cs a],[])::Bs) (RW P l.toArray Q (before m) (eK l) k0 rs)):JR c n σ M L [] Bs (RW P l.toArray Q (before m) (eK l) k0 (i::rs)):=by
  simp only[Prod.mk.injEq]at h;exact bI h.1 (aW.cons p h.2.2.1 aW.nil) jS.nil (iC 0 h.2.1 Z h.2.2.2.1 h.2.2.2.2.1) aR.z k h.2.2.2.2.2.1 Z h.2.2.2.2.2.2
end
theorem NO {X R:Type} {b:X->(X->V1 R)->V1 R} {r:R} (I:X->Prop) (e:X->Nat)
  (h:∀x f,I x->(∀c,I c->e c<e x->f c=some r)->b x f=some r):∀(a:Nat) (x:X),I x->e x<a->bG b a x=some r:=by
 intro a
 induction a with
 |zero=>intro x _ j;omega
 |succ k l=>
  intro x g j;exact h x _ g λc d i=>l c d V7
def OK {R:Type} (Q:R->Prop) (o:V1 R):Prop:=∃r,o=some r/\Q r
theorem dM {b:Type} {p:Prop} [Decidable p] (a:p) (x:Option b):ck p x=x:=if_pos a
theorem Q6 {b:Type} {p:Prop} [Decidable p] (a:p:=by omega) {x:Option b}:ck p x=x:=dM a x
theorem wr {x:Int} (a : -9223372036854775808<=x) (b:x<=9223372036854775807):wI .i64 x=x:=if_pos ⟨a,b⟩
theorem Q7 {x:Int} (a: -9223372036854775808<=x:=by omega) (b:x<=9223372036854775807:=by omega):wI .i64 x=x:=wr a b
theorem aY {a b:Type} {x:V1 a} {y:a} {f:a->V1 b} (h:x=some y):x.bind f=f y:=by rw[h];rfl
theorem Si {a:Type} (l r:V6 a) (x y:a) (i:Nat) (h:l.length=i):(l++x::r).set i y=l++y::r:=by
 rw[List.set_append_right _ _ V7];simp[<-h]
theorem h_ {a:Type} [Inhabited a] (l r:V6 a) (x:a) (i:Nat) (h:l.length=i):at' (l++x::r) (i:Int)=x:=by
 rw[BH,zAm,zA9 V7];simp[<-h]
theorem gW {X R:Type} {step:X->(X->V1 R)->V1 R} {K:V1 R} (N:Nat) (F:Nat->X) (c:∀(k:Nat) g,k<N->step (F k) g=g (F (k+1))) (e:∀g,step (F N) g=K):∀b,N<b->bG step b (F 0)=K:=by
 have i:∀(d a b:Nat),a+d=N->d<b->bG step b (F a)=K:=by
  intro d
  induction d with
  |zero=>
   intro a b j h;obtain rfl:a=N:=V7
   obtain⟨f,rfl⟩:∃f,b=f+1:=⟨b - 1,V7⟩
   exact e _
  |succ d l=>
   intro a b j h;obtain⟨f,rfl⟩:∃f,b=f+1:=⟨b - 1,V7⟩
   show step (F a) (bG step f)=K;rw[c a _ V7];exact l (a+1) f V7 V7
 exact λb h=>i N 0 b V7 h
theorem VF {X R:Type} {c:X->(X->V1 R)->V1 R} {K g:V1 R} (N:Nat) (p:Nat->Prop) (F:Nat->X) (t:∀(k:Nat) i,k<N->p k->c (F k) i=i (F (k+1))) (l:∀(k:Nat) i,k<N->¬p k->c (F k) i=g) (m:∀i,c (F N) i=K):
  ∀b,N<b->((∀k,k<N->p k)->bG c b (F 0)=K)/\(¬(∀k,k<N->p k)->bG c b (F 0)=g):=by
 have u:∀(d a b:Nat),a+d=N->d<b->((∀k,a<=k->k<N->p k)->bG c b (F a)=K)/\(¬(∀k,a<=k->k<N->p k)->bG c b (F a)=g):=by
  intro d
  induction d with
  |zero=>
   intro a b v s;obtain rfl:a=N:=V7
   obtain⟨f,rfl⟩:∃f,b=f+1:=⟨b - 1,V7⟩
   exact⟨λ_=>m _,λh=>absurd (λk o j=>V7) h⟩
  | succ d ih =>
   intro a b v s;obtain⟨f,rfl⟩:∃f,b=f+1:=⟨b - 1,V7⟩
   have⟨w,x⟩:=ih (a+1) f V7 V7;have e:bG c (f+1) (F a)=c (F a) (bG c f):=rfl;rw[e];by_cases q:p a
   .rw[t a _ V7 q];refine⟨λh=>w λk o j=>h k V7 j,λh=>x λr=>h λk o j=>?_⟩
    by_cases n:k=a
    .subst n;exact q
    .exact r k V7 j
   .exact⟨λh=>absurd (h a (zAf _) V7) q,λ_=>l a _ V7 q⟩
 intro b s;have⟨o,j⟩:=u N 0 b V7 s;exact⟨λh=>o λk _ n=>h k n,λh=>j λr=>h λk n=>r k V7 n⟩
def acD (q:Nat->V4):Nat->V4
 |0=>false
 |k+1=>acD q k||q k
theorem ZW {q:Nat->V4}:∀{k:Nat},acD q k=true↔∃i,i<k/\q i=true
 |0=>by simp[acD]
 | k + 1 =>by
  simp only[acD,Bool.or_eq_true,ZW (k:=k)];constructor
  .rintro(⟨i,b,a⟩|h)
   .exact⟨i,V7,a⟩
   .exact⟨k,V7,h⟩
  .rintro⟨i,b,a⟩;by_cases e:i=k
   .subst e;exact .inr a
   .exact .inl ⟨i,V7,a⟩
def Gz (p:Nat->V4):Nat->Nat
 |0=>0
 |k+1=>if p k then Gz p k ||| 2^k else Gz p k
theorem TW (p:Nat->V4):∀k,Gz p k<2^k
 |0=>by simp[Gz]
 |k+1=>by
  have h:=TW p k;simp only[Gz];split
  .exact Nat.or_lt_two_pow V7 (Nat.pow_lt_pow_right V7 V7)
  .omega
theorem QB (p:Nat->V4) (j:Nat):∀k,(Gz p k).testBit j=(decide (j<k)&&p j)
 |0=>by simp[Gz]
 | k + 1 =>by
  have h:=QB p j k;simp only[Gz];by_cases e:j=k
  .subst e;cases c:p j<;>simp[h,c]
  .have a:decide (j<k+1)=decide (j<k):=decide_eq_decide.2 V7;have b:¬k=j:=λh=>e h.symm;split
   .rw[Nat.testBit_or,h,Nat.testBit_two_pow,a];simp[b]
   .rw[h,a]
end Go.Sx
namespace Go.Proofs.YtemmagadjnlajaaGreatDoor
open Go Go.Sx
abbrev TM:=Int×Int
def Fu (o:Int):V1 Nat:=if o<1\/43<o then none else if o<=17 then some 0 else if o<=29 then some 1 else if o<=42 then some 2 else some 3
inductive X where
 |lf (t:TM)
 |un (t:TM) (x:X)
 |bi (t:TM) (x y:X)
 |tr (t:TM) (x y z:X)
def X.ts:X->V6 TM
 |lf t=>[t]
 |un t x=>t::x.ts
 |bi t x y=>t::(x.ts++y.ts)
 |tr t x y z=>t::(x.ts++(y.ts++z.ts))
def X.ok:X->Prop
 |lf t=>Fu t.1=some 0
 |un t x=>Fu t.1=some 1/\x.ok
 |bi t x y=>Fu t.1=some 2/\x.ok/\y.ok
 |tr t x y z=>Fu t.1=some 3/\x.ok/\y.ok/\z.ok
def agg (o:Int):V4:=decide (20<=o)&&decide (o<=29)
def X.depth:X->Nat
 |lf _=>1
 |un _ x=>x.depth+1
 |bi _ x y=>max x.depth y.depth+1
 |tr _ x y z=>max x.depth (max y.depth z.depth)+1
def X.nest:X->Nat
 |lf _=>0
 |un t x=>x.nest+(if agg t.1 then 1 else 0)
 |bi _ x y=>max x.nest y.nest
 |tr _ x y z=>max x.nest (max y.nest z.nest)
theorem X.pos (x:X):1<=x.ts.length:=by cases x<;>simp[X.ts]
theorem X.depth_le:∀x:X,x.depth<=x.ts.length
 |lf _=>by simp[X.depth,X.ts]
 |un _ x=>by have:=x.depth_le;simp[X.depth,X.ts];omega
 |bi _ x y=>by have:=x.depth_le;have:=y.depth_le;simp[X.depth,X.ts];omega
 |tr _ x y z=>by have:=x.depth_le;have:=y.depth_le;have:=z.depth_le;simp[X.depth,X.ts];omega
def rn:Nat->V6 TM->V1 Nat
 |0,_=>some 0
 |_+1,[]=>none
 |m+1,t::r=>match Fu t.1 with
  |none=>none
  |some a=>(rn (m+a) r).map (· + 1)
theorem NT (l:V6 TM):rn 0 l=some 0:=by cases l<;>rfl
theorem HX {t:TM} {a:Nat} (h:Fu t.1=some a) (m:Nat) (r:V6 TM):rn (m+1) (t::r)=(rn (m+a) r).map (· + 1):=by
 show(match Fu t.1 with|none=>none|some a=>_)=_;rw[h]
theorem Sf {t:TM} (h:Fu t.1=none) (m:Nat) (r:V6 TM):rn (m+1) (t::r)=none:=by
 show(match Fu t.1 with|none=>none|some a=>_)=_;rw[h]
theorem LW {o:Int} {a:Nat} (h:Fu o=some a):a<=3:=by
 unfold Fu at h;split at h
 .cases h
 .split at h
  .cases h;omega
  .split at h
   .cases h;omega
   .split at h<;>cases h<;>omega
theorem QF:∀(l:V6 TM) (m n:Nat),rn m l=some n->∃d:V6 X,d.length=m/\(∀x∈d,x.ok)/\∃c,l=d.flatMap X.ts++c/\n=(d.flatMap X.ts).length
 |l,0,n,h=>by
  rw[NT]at h;cases h;exact⟨[],rfl,λx j=>(by cases j),l,rfl,rfl⟩
 | [],m+1,n,h=>by cases h
 | t :: r, m + 1, n, h =>by
  cases e:Fu t.1 with
  |none=>rw[Sf e]at h;cases h
  | some a =>
   rw[HX e]at h;obtain⟨s,p,rfl⟩:=Option.map_eq_some_iff.1 h;obtain⟨d,f,b,c,g,rfl⟩:=QF r (m+a) s p;have o:=LW e
   match a,e,d,f,b,g with
   | 0, e, d, f, b, g =>
    exact⟨.lf t::d,by simp at f ⊢;omega,λx j=>by
     rcases zAi.1 j with rfl|j
     .exact e
     .exact b x j,c,by rw[g];simp[X.ts],by simp[X.ts]<;>omega⟩
   | 1, e, x :: d, f, b, g =>
    exact⟨.un t x::d,by simp at f ⊢;omega,λy k=>by
     rcases zAi.1 k with rfl|k
     .exact⟨e,b x V8⟩
     .exact b y (by simp[k]),c,by rw[g];simp[X.ts],by simp[X.ts]<;>omega⟩
   | 2, e, x :: y :: d, f, b, g =>
    exact⟨.bi t x y::d,by simp at f ⊢;omega,λq i=>by
     rcases zAi.1 i with rfl|i
     .exact⟨e,b x V8,b y V8⟩
     .exact b q (by simp[i]),c,by rw[g];simp[X.ts],by simp[X.ts]<;>omega⟩
   | 3, e, x :: y :: z :: d, f, b, g =>
    exact⟨.tr t x y z::d,by simp at f ⊢;omega,λq i=>by
     rcases zAi.1 i with rfl|i
     .exact⟨e,b x V8,b y V8,b z V8⟩
     .exact b q (by simp[i]),c,by rw[g];simp[X.ts],by simp[X.ts]<;>omega⟩
theorem OV:∀(x:X),x.ok->∀(m:Nat) (a:V6 TM),rn (m+1) (x.ts++a)=(rn m a).map (· + x.ts.length)
 | .lf t,h,m,a=>by
  show rn (m+1) (t::a)=_;rw[HX h];rfl
 | .un t x,h,m,a=>by
  show rn (m+1) (t::(x.ts++a))=_;rw[HX h.1,OV x h.2];simp[X.ts,Option.map_map,Function.comp_def,Nat.add_assoc]
 | .bi t x y,h,m,a=>by
  show rn (m+1) (t::((x.ts++y.ts)++a))=_;rw[HX h.1,zAr,show m+2=m+1+1 from rfl,OV x h.2.1,OV y h.2.2];simp[X.ts,Option.map_map,Function.comp_def];congr 1;funext q;omega
 | .tr t x y z,h,m,a=>by
  show rn (m+1) (t::((x.ts++(y.ts++z.ts))++a))=_;rw[HX h.1,zAr,zAr,show m+3=m+2+1 from rfl,OV x h.2.1,show m+2=m+1+1 from rfl,OV y h.2.2.1,OV z h.2.2.2];simp[X.ts,Option.map_map,Function.comp_def];congr 1;funext q;omega
def IA (T:V6 TM) (k:Nat):Int:=match rn 1 (T.drop k)with
 |some n=>((k+n:Nat):Int)
 |none=> -1
theorem YD {T:V6 TM} (h:IA T 0=T.length) (j:0<T.length):∃x:X,x.ok/\T=x.ts:=by
 unfold IA at h;rw[List.drop_zero]at h;cases c:rn 1 T with
 |none=>rw[c]at h;simp at h<;>omega
 | some n =>
  rw[c]at h;have⟨i,f,b,a,d,g⟩:=QF T 1 n c
  match i,f with
  | [x], _ =>
   refine⟨x,b x V8,?_⟩
   have:a=[]:=by
    have e:=congrArg List.length d;simp at e h g;exact zAl V7
   rw[d,this];simp
theorem Jt {T pre post:V6 TM} {x:X} {k:Nat} (c:x.ok) (a:T=pre++(x.ts++post)) (b:pre.length=k):IA T k=((k+x.ts.length:Nat):Int):=by
 unfold IA;rw[a,<-b,List.drop_left,OV x c,NT];simp
theorem Xj {x:X} (a:x.ok):IA x.ts 0=x.ts.length:=by
 have:=Jt (T:=x.ts) (pre:=[]) (post:=[]) (k:=0) a V8 Z;rw[this];simp
end Go.Proofs.YtemmagadjnlajaaGreatDoor
end
