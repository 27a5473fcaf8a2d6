/- Models and proofs. Conditions: none. -/
import Derived.WalkKit
import Derived.RangeFuncRecord
import Derived.OrdersIn
import Derived.TacticsIn
import Derived.DefersIn
import Derived.Test.YtflciafboapaaaaGreatProg
import Derived.Deep.AppendSrc
import Derived.Test.YtflciafboapaaaaGreatRows
import Derived.ProofKit
import Derived.Deep.Slices
import Derived.Lib.SmallJoins
import Derived.Maps.RangeRun
abbrev V0:=Go.Value
theorem Z.{u} {α:Sort u} {a:α}:a=a:=rfl
abbrev zA0:=@List.mem_of_getElem?
abbrev zA1:=@List.length_set
abbrev zA2:=@List.getElem?_eq_getElem
abbrev zA3:=@decide_eq_false
abbrev zA4:=@List.length_append
abbrev zA5:=@decide_eq_true
abbrev zA6:=@Bool.and_eq_true
abbrev zA7:=@Nat.eq_of_beq_eq_true
abbrev zA8:=@List.all_eq_true
abbrev zA9:=@List.length_cons
abbrev zAa:=@decide_eq_true_eq
abbrev zAb:=@List.getElem?_append_right
abbrev zAc:=@List.getElem?_append_left
abbrev zAd:=@List.getD_eq_getElem?_getD
abbrev zAe:=@Nat.le_refl
abbrev zAf:=@List.mem_cons_self
abbrev zAg:=@List.length_nil
abbrev zAh:=@List.getElem?_set_self
abbrev zAi:=@Int.toNat_natCast
abbrev zAj:=@Array.getElem?_eq_some_iff
abbrev zAk:=@Array.getElem?_toList
abbrev zAl:=@List.mem_cons_of_mem
abbrev zAm:=@List.mem_cons
abbrev zAn:=@List.eq_nil_of_length_eq_zero
abbrev zAo:=@List.getElem?_eq_none
abbrev zAp:=@List.mem_range
abbrev zAq:=@List.getElem?_set_ne
abbrev zAr:=@Nat.mul_le_mul_right
abbrev zAs:=@List.getElem?_take
abbrev zAt:=@List.getElem?_drop
abbrev zAu:=@Nat.lt_or_ge
abbrev zAv:=@Nat.blt_eq
abbrev zAw:=@Bool.true_and
abbrev zAx:=@Decidable.not_not
abbrev zAy:=@Nat.add_mul
abbrev zAz:=@List.append_assoc
abbrev zB0:=@List.mem_append
abbrev zB1:=@Nat.le_trans
abbrev zB2:=@of_decide_eq_true
abbrev zB3:=@List.take_length
abbrev zB4:=@Nat.lt_of_lt_of_le
abbrev zB5:=@Bool.or_eq_true
abbrev zB6:=@Array.getElem?_setIfInBounds_ne
abbrev zB7:=@List.not_mem_nil
abbrev zB8:=@Int.emod_lt_of_pos
abbrev zB9:=@List.mem_map
abbrev zBa:=@Array.getElem?_setIfInBounds_self_of_lt
abbrev zBb:=@List.nil_append
abbrev zBc:=@List.take_append_drop
abbrev zBd:=@Array.getElem?_append_left
abbrev zBe:=@List.getElem_mem
abbrev zBf:=@List.map_cons
noncomputable section
set_option linter.unusedVariables false
set_option linter.unusedSimpArgs false
set_option maxHeartbeats 4000000
set_option maxRecDepth 20000
namespace Go.Sx
open Go.RowKit
def FR (r:Option Nat):Fence:={Fence.wide with round:=r}
theorem Nc (P:Program) (r:Option Nat):Machine.fenced P (FR r)=Machine.fenced P Fence.wide:=rfl
theorem TC (r:Option Nat) (n:Nat):(FR r).room n:=λ_ h=>by cases h
theorem aaJ {r:Option Nat} {n:Nat} {P:Program} {f:FuncId} {a:Array V0} {w:World} {R:Ending->World->Prop} (h:Calls P f a w R):CallsIn (FR r) n P f a w R:=
 ⟨trivial,λb _=>let ⟨e,w',fr,hr,s,x⟩:=h b;⟨e,w',fr,hr,(Nc P r▸comesIn_wide.2 s),x⟩⟩
theorem Qq {r:Option Nat} {n:Nat} {P:Program} {f:FuncId} {args:Array V0} {w:World} {R:Ending->World->Prop} (h:CallsIn (FR r) n P f args w R):Calls P f args w R:=
 λa=>let ⟨e,w',fr,hr,s,x⟩:=h.2 a (TC r _);⟨e,w',fr,hr,ComesIn.comes s,x⟩
def _root_.Go.Code.wpr (r:Option Nat) (P:Program) (c:Code) (Q:Exit->Act->World->Prop) (a:Act) (w:World):Prop:=c.wpIn (FR r) 0 P Q a w
section
variable {r:Option Nat} {P:Program} {Q:Exit->Act->World->Prop} {a:Act} {w:World}
theorem My {c:Code} {b:Exit->Act->World->Prop} (d:∀e a w,Q e a w->b e a w) (h:c.wpr r P Q a w):c.wpr r P b a w:=Code.wpIn_mono d h
theorem UV {x y:Code} (h:x.wpr r P (Exit.then (y.wpr r P Q) Q) a w):(Code.seq x y).wpr r P Q a w:=wpIn_seq h
theorem Od {id:Nat} {x:Code} (h:x.wpr r P (Exit.inBlock id Q) a w):(Code.block id x).wpr r P Q a w:=wpIn_block h
theorem RO (h:Q .normal a w):Code.skip.wpr r P Q a w:=wpIn_skip h
theorem RN {id:Nat} (h:Q (.exit id) a w):(Code.exit id).wpr r P Q a w:=wpIn_exit h
theorem UU (h:Q .ret a w):Code.ret.wpr r P Q a w:=wpIn_ret h
theorem Gr {x:Operand} {d c:Code} {b:Bool} (e:a.eval x = .bool b) (g:b=true->d.wpr r P Q a w) (f:b=false->c.wpr r P Q a w):(Code.cond x d c).wpr r P Q a w:=wpIn_cond_split e g f
def _root_.Go.Oper.rnd (P:Program) (o:Oper) (a:Act) (w:World) (K:Act->World->Prop):Prop:=
 ∃l f d b c h,(execOp a.eval o).run P w = .ok (.round l f d b c) h/\RoundIn (FR none) 0 P l f d b c h λe g=>∃v,e = .returned v/\K (a.put o.dst v) g
theorem _root_.Go.Oper.rnd_mono {o:Oper} {K g:Act->World->Prop} (m:∀a w,K a w->g a w) (h:o.rnd P a w K):o.rnd P a w g:=by
 obtain⟨l,f,d,b,c,p,i,j⟩:=h;exact⟨l,f,d,b,c,p,i,j.mono λe q ⟨v,k,n⟩=>⟨v,k,m _ _ n⟩⟩
def kB (o:Oper):Bool:=match o.op with|.defer _=>false|_=>true
theorem YJ {o:Oper} (h:kB o=true) (r:Option Nat) (b:Operand->V0):o.semAt r b=execOp b o:=
 Oper.semAt_eq r b o λc d=>by unfold kB at h;rw[d]at h;cases h
theorem adT {n:Nat} {d:String} {b:Array V0} {R:V0->World->Prop} (h:Rows P d b w R):RowsIn (FR r) n P d b w R:=λc e _=>
 let ⟨v,w',hr,s⟩:=h c e;⟨v,w',hr,(Nc P r▸stepsIn_wide.2 s)⟩
theorem acq {o:Oper} {K:Act->World->Prop} (z:kB o=true) (h:o.wp P a w K Q\/o.rnd P a w K):o.wpIn (FR r) 0 P a w K Q:=by
 refine⟨λ_ _=>trivial,?_⟩
 rw[YJ z];rcases h with h|h
 ·unfold Oper.wp at h;cases n:(execOp a.eval o).run P w with
  | ok x q =>
   rw[n]at h;cases x with
   |value v=>exact h
   |skip=>exact h
   |defer d=>exact h
   |enter f b=>
    refine⟨(λg=>by cases g),(aaJ h).mono ?_⟩
    intro e i k;cases e<;>exact k
   |row rw b=>exact⟨(λg=>by cases g),adT h⟩
   |_=>exact h.elim
  |halt x q=>
   rw[n]at h;cases x<;>first|exact h|exact h.elim
 ·obtain⟨l,f,p,j,m,q,u,y⟩:=h;rw[u];refine⟨(λg=>by cases g),?_⟩
  exact⟨trivial,λc t _=>by
   obtain⟨e,i,⟨v,k,A⟩,s⟩:=y.2 c t (TC none _);subst k;exact⟨.returned v,i,A,s⟩⟩
end
def wpList (P:Program) (ops:Array Oper) (Q:Exit->Act->World->Prop):List Oper->Act->World->Prop
 | [],a,w=>Q .normal a w
 |o::rest,a,w=>
  if Region.wanted o (yielded ops a.tmps)then o.wp P a w (wpList P ops Q rest) Q\/o.rnd P a w (wpList P ops Q rest)else wpList P ops Q rest (a.put o.dst undef) w
theorem wpList_in {r:Option Nat} {P:Program} {ops:Array Oper} {Q:Exit->Act->World->Prop}:∀(l:List Oper) (a:Act) (w:World),l.all kB=true->wpList P ops Q l a w->wpListIn (FR r) 0 P ops Q l a w
 | [],_,_,_,h=>h
 | o :: rest, a, w, hd, h => by
  simp only[List.all_cons,zA6]at hd;unfold wpList at h;unfold wpListIn;by_cases b:Region.wanted o (yielded ops a.tmps)=true
  ·rw[if_pos b]at h ⊢;refine acq hd.1 ?_;rcases h with h|h
   ·exact .inl (Oper.wp_mono (λa w h=>wpList_in rest a w hd.2 h) h)
   ·exact .inr (Oper.rnd_mono (λa w h=>wpList_in rest a w hd.2 h) h)
  ·rw[if_neg b]at h ⊢;exact⟨λ_ _=>trivial,wpList_in rest _ w hd.2 h⟩
theorem vG {r:Option Nat} {P:Program} {Q:Exit->Act->World->Prop} {a:Act} {w:World} {id:Nat} {l:List Oper} (b:l.all kB=true) (h:wpList P l.toArray Q l a w):(Code.region id l.toArray false).wpr r P Q a w:=
 wpIn_region_lit (wpList_in l a w b h)
def wpOp (P:Program) (b:Array Oper) (Q:Exit->Act->World->Prop) (i:Nat) (K:Act->World->Prop) (a:Act) (w:World):Prop:=
 match b[i]? with
 |none=>K a w
 |some o=>if Region.wanted o (yielded b a.tmps)then o.wp P a w K Q\/o.rnd P a w K else K (a.put o.dst undef) w
def Mv (P:Program) (b:Array Oper) (Q:Exit->Act->World->Prop):List Nat->Act->World->Prop
 | [],a,w=>Q .normal a w
 |i::rest,a,w=>wpOp P b Q i (Mv P b Q rest) a w
theorem Tz {P:Program} {c:Array Oper} {Q:Exit->Act->World->Prop} (i:Nat) (b:List Nat) (a:Act) (w:World):Mv P c Q (i::b) a w=wpOp P c Q i (Mv P c Q b) a w:=rfl
def wpAny (P:Program) (c:Region.Mode) (b:Array Oper) (Q:Exit->Act->World->Prop):Nat->Array Bool->Act->World->Prop
 |0,listed,a,w=>Region.ready c b listed=[]/\Q .normal a w
 |fuel+1,listed,a,w=>
  (Region.ready c b listed=[]->Q .normal a w)/\
  ∀i∈Region.ready c b listed,wpOp P b Q i (wpAny P c b Q fuel (listed.setIfInBounds i true)) a w
section
variable {r:Option Nat} {P:Program} {ops:Array Oper} {Q:Exit->Act->World->Prop}
theorem UT {i:Nat} {K d:Act->World->Prop} {a:Act} {w:World} (f:∀o,ops[i]? = some o->kB o=true) (b:∀a w,K a w->d a w) (h:wpOp P ops Q i K a w):wpOpIn (FR r) 0 P ops Q i d a w:=by
 unfold wpOp at h;unfold wpOpIn;cases c:ops[i]? with
 |none=>rw[c]at h;exact b _ _ h
 | some o =>
  rw[c]at h;dsimp only at h ⊢;by_cases e:Region.wanted o (yielded ops a.tmps)=true
  ·rw[if_pos e]at h ⊢;refine acq (f o c) ?_;rcases h with h|h
   ·exact .inl (Oper.wp_mono b h)
   ·exact .inr (Oper.rnd_mono b h)
  ·rw[if_neg e]at h ⊢;exact⟨λ_ _=>trivial,b _ _ h⟩
theorem RI (b:∀(i:Nat) (o:Oper),ops[i]? = some o->kB o=true):∀(s:List Nat) (a:Act) (w:World),Mv P ops Q s a w->wpOpsIn (FR r) 0 P ops Q s a w
 | [],_,_,h=>h
 |i::rest,a,w,h=>by
  rw[wpOpsIn_cons];exact UT (b i) (λa w h=>RI b rest a w h) h
theorem RH {d:Region.Mode} (c:∀(i:Nat) (o:Oper),ops[i]? = some o->kB o=true):∀(fuel:Nat) (b:Array Bool) (a:Act) (w:World),wpAny P d ops Q fuel b a w->wpAnyIn (FR r) 0 P d ops Q fuel b a w
 |0,_,_,_,h=>h
 |fuel+1,b,a,w,h=>⟨h.1,λi e=>UT (c i) (λa w h=>RH c fuel _ a w h) (h.2 i e)⟩
theorem Kg {l:List Oper} (h:l.all kB=true) (i:Nat) (o:Oper) (a:l.toArray[i]? = some o):kB o=true:=by
 have b:o∈l:=by
  rw[List.getElem?_toArray]at a;exact zA0 a
 exact zA8.1 h o b
theorem Gs {id:Nat} {l:List Oper} {a:Act} {w:World} (b:l.all kB=true) (c:P.follows .mixedOrders=true)
  (h:wpAny P .any l.toArray Q l.toArray.size (Array.replicate l.toArray.size false) a {w with drawn:=w.drawn+1}):(Code.region id l.toArray true).wpr r P Q a w:=
 wpIn_region_any c (RH (Kg b) _ _ _ _ h)
theorem KB {id:Nat} {l:List Oper} {a:Act} {w:World} (b:l.all kB=true)
  (h:∀t,Mv P l.toArray Q (Region.schedule (P.follows .mixedOrders) l.toArray t) a {w with drawn:=w.drawn+1}):(Code.region id l.toArray true).wpr r P Q a w:=
 wpIn_region_draw λt=>RI (Kg b) _ _ _ (h t)
end
def pN (P:Program) (a:Func) (R:Ending->World->Prop):Exit->Act->World->Prop:=bodyPostM (FR none) 0 P a R
theorem yW {P:Program} {f:FuncId} {fn:Func} {c:Code} {a:Array V0} {w:World} {R:Ending->World->Prop} (d:P.funcs[f]? = some fn) (b:fn.body=some c)
  (h:c.wpr none P (pN P fn R) {tmps:=a++Array.replicate (fn.ntmps - a.size) undef,defers:=[]} w):Calls P f a w R:=
 Qq (r:=none) (callsIn_of_wp_marks d b trivial h)
theorem body_end {P:Program} {fn:Func} {R:Ending->World->Prop} {a:Act} {w:World} {v:V0} {e:Exit} (f:e = .ret\/e = .normal) (c:a.defers=[]) (d:(results fn a.tmps).run P w = .ok v w) (b:R (.returned v) w):pN P fn R e a w:=by
 rcases f with rfl|rfl
 ·show LeavesInM (FR none) 0 P fn a.tmps R a.defers .returning w;rw[c];exact⟨v,d,b⟩
 ·show LeavesInM (FR none) 0 P fn a.tmps R a.defers .returning w;rw[c];exact⟨v,d,b⟩
abbrev Fr:=List (Nat×V0)
def lk:Fr->Nat->Option V0
 | [],_=>none
 |(k,v)::r,t=>bif Nat.beq t k then some v else lk r t
def ev (σ:Fr):Operand->Option V0
 | .tmp t=>lk σ t
 | .const v=>some v
 | .global g=>some (.pointer (some ⟨g,0,none⟩))
 | .func f=>some (.func (.func f) #[] #[])
structure Sz where
 sz:Nat
 ds:List Deferred
structure I_ (n:Sz) (σ:Fr) (a:Act):Prop where
 defers:a.defers=n.ds
 size:a.tmps.size=n.sz
 slot:∀t v,lk σ t=some v->a.tmps[t]? = some v
theorem I_.eval {n:Sz} {c:Fr} {a:Act} (h:I_ n c a) {x:Operand} {v:V0} (b:ev c x=some v):a.eval x=v:=by
 cases x with
 |tmp t=>simp only[ev]at b;have:=h.slot t v b;simp[Act.eval,this]
 |const u=>simpa [ev,Act.eval]using b
 |global g=>simpa [ev,Act.eval]using b
 |func f=>simpa [ev,Act.eval]using b
theorem oZ {t d:Nat} (e:t≠d):Nat.beq t d=false:=by
 cases h:Nat.beq t d with
 |false=>rfl
 |true=>exact absurd (zA7 h) e
theorem I_.put {n:Sz} {f:Fr} {a:Act} (h:I_ n f a) (d:Nat) (v:V0) (g:Nat.blt d n.sz=true):I_ n ((d,v)::f) (a.put (some d) v):=by
 have c:d<n.sz:=by simpa [zAv]using g
 refine⟨h.defers,by simp[Act.put,h.size],λt u b=> ?_⟩
 simp only[lk]at b;by_cases e:t=d
 ·subst e;simp at b;subst b;simp[Act.put,h.size,c]
 ·rw[oZ e]at b;simp only[cond_false]at b;simp only[Act.put];rw[zB6 (Ne.symm e)];exact h.slot t u b
def Cb (b a:Fr):Prop:=∀t v,lk a t=some v->lk b t=some v
theorem Cb.nil {a:Fr}:Cb a []:=λ_ _ h=>by simp[lk]at h
theorem Cb.refl (a:Fr):Cb a a:=λ_ _ h=>h
theorem Cb.cons {c b:Fr} {t:Nat} {v:V0} (h:lk c t=some v) (r:Cb c b):Cb c ((t,v)::b):=by
 intro u x a;simp only[lk]at a;by_cases e:u=t
 ·subst e;simp at a;subst a;exact h
 ·rw[oZ e]at a;exact r u x a
theorem I_.weak {n:Sz} {c b:Fr} {a:Act} (h:I_ n c a) (d:Cb c b):I_ n b a:=
 ⟨h.defers,h.size,λt v e=>h.slot t v (d t v e)⟩
theorem SF {b a:Fr} (h:Cb b a:=by repeat (first|exact Cb.nil|refine Cb.cons Z ?_)):Cb b a:=h
structure bH where
 p:World->(Nat->Prop)->Prop
 mono:∀{w w':World} {S S':Nat->Prop},p w S->(∀k,S k->k<w.heap.size->S' k/\w'.heap[k]? = w.heap[k]?)->p w' S'
structure yO where
 w0:World
 S0:Nat->Prop
 O:Nat->Prop:=λ_=>False
def yO.mine (c:yO) (k:Nat):Prop:=c.w0.heap.size<=k\/c.O k
def yO.all (c:yO) (k:Nat):Prop:=c.S0 k\/c.mine k
abbrev Nb (w w':World):Prop:=Below w.heap.size w w'
structure Eb (O:Nat->Prop) (w w':World):Prop where
 os:w'.os=w.os
 tape:w'.tape=w.tape
 output:w'.output=w.output
 size:w.heap.size<=w'.heap.size
 block:∀k,k<w.heap.size->¬O k->w'.heap[k]? = w.heap[k]?
theorem Eb.refl {O:Nat->Prop} (w:World):Eb O w w:=⟨rfl,rfl,rfl,zAe _,λ_ _ _=>rfl⟩
theorem Eb.trans {O:Nat->Prop} {a b c:World} (h:Eb O a b) (k:Nb b c):Eb O a c:=
 ⟨k.os.trans h.os,k.tape.trans h.tape,k.output.trans h.output,zB1 h.size k.size,λi d e=>(k.block i (zB4 d h.size)).trans (h.block i d e)⟩
theorem Eb.ext {w w':World} (h:Eb (λ_=>False) w w'):Nb w w':=⟨h.os,h.tape,h.output,h.size,λk a=>h.block k a id⟩
structure Own (c:yO) (w:World) (M:List bH) (F:Nat->Nat->Prop):Prop where
 res:∀(i:Nat) (m:bH),M[i]? = some m->m.p w (F i)
 rng:∀i k,F i k->c.mine k/\k<w.heap.size
 dis:∀i j k,F i k->F j k->i=j
def Dy (c:yO) (F:Nat->Nat->Prop) (k:Nat):Prop:=c.all k/\∀i,¬F i k
structure St (c:yO) (M L:List bH) (w:World):Prop where
 old:Eb c.O c.w0 w
 own:∃F:Nat->Nat->Prop,Own c w M F/\∀f∈L,f.p w (Dy c F)
theorem bH.same {f:bH} {w c:World} {S a:Nat->Prop} (h:f.p w S) (d:∀k,S k->a k) (e:∀k,S k->k<w.heap.size->c.heap[k]? = w.heap[k]?):f.p c a:=
 f.mono h λk b g=>⟨d k b,e k b g⟩
theorem St.ext {c:yO} {M L:List bH} {w w':World} (h:St c M L w) (e:Nb w w'):St c M L w':=by
 obtain⟨n,F,a,g⟩:=h;refine⟨n.trans e,F,⟨λi m l=>bH.same (a.res i m l) (λ_ h=>h) (λk _ b=>e.block k b),λi k d=>⟨(a.rng i k d).1,zB4 (a.rng i k d).2 e.size⟩,a.dis⟩,
  λf j=>bH.same (g f j) (λ_ h=>h) (λk _ b=>e.block k b)⟩
def aZ (M M':List bH):Prop:=∃g:Nat->Nat,(∀i j,i<M'.length->j<M'.length->g i=g j->i=j)/\∀(i:Nat) (m:bH),M'[i]? = some m->M[g i]? = some m
theorem aZ.refl (M:List bH):aZ M M:=⟨id,λ_ _ _ _ h=>h,λ_ _ h=>h⟩
theorem aZ.nil {M:List bH}:aZ M []:=⟨id,λ_ _ h=>by simp at h,λ_ _ h=>by simp at h⟩
theorem aZ.cons {M l:List bH} (i:Nat) {m:bH} (h:M[i]? = some m) (r:aZ (M.eraseIdx i) l):aZ M (m::l):=by
 obtain⟨g,p,q⟩:=r;let e:Nat->Nat:=λj=>match j with|0=>i|j+1=>if g j<i then g j else g j+1
 have t:i<M.length:=by
  rcases zAu i M.length with k|k
  ·exact k
  ·rw[zAo k]at h;cases h
 refine⟨e,?_,?_⟩
 ·intro a b n o c;cases a with
  |zero=>
   cases b with
   |zero=>rfl
   |succ b=>simp only[e]at c;split at c<;>omega
  | succ a =>
   cases b with
   |zero=>simp only[e]at c;split at c<;>omega
   |succ b=>
    simp only[zA9]at n o;have:g a=g b:=by simp only[e]at c;split at c<;>split at c<;>omega
    have:=p a b (by omega) (by omega) this;omega
 ·intro j s f;cases j with
  |zero=>simp at f;subst f;exact h
  |succ j=>
   simp only[List.getElem?_cons_succ]at f;have:=q j s f;rw[List.getElem?_eraseIdx]at this;simp only[e];split
   ·rename_i d;rwa[if_pos d]at this
   ·rename_i d;rwa[if_neg d]at this
theorem St.weak {c:yO} {M L d L':List bH} {w:World} (h:St c M L w) (r:aZ M d) (q:∀f∈L',f∈L):St c d L' w:=by
 obtain⟨v,F,l,s⟩:=h;obtain⟨g,t,u⟩:=r;refine⟨v,λi k=>i<d.length/\F (g i) k,⟨λi m a=> ?_,λi k b=>l.rng _ k b.2,λi j k a p=>t i j a.1 p.1 (l.dis _ _ k a.2 p.2)⟩,λf n=> ?_⟩
 ·have o:i<d.length:=by
   rcases zAu i d.length with e|e
   ·exact e
   ·rw[zAo e]at a;cases a
  exact bH.same (l.res _ m (u i m a)) (λk b=>⟨o,b⟩) (λ_ _ _=>rfl)
 ·exact bH.same (s f (q f n)) (λk b=>⟨b.1,λi a=>b.2 _ a.2⟩) (λ_ _ _=>rfl)
def iC (L a:List bH):Prop:=∀f∈a,f∈L
theorem iC.nil {L:List bH}:iC L []:=λ_ h=>by simp at h
theorem iC.cons {L b:List bH} {f:bH} (h:f∈L) (r:iC L b):iC L (f::b):=λg a=>by
 rcases zAm.1 a with rfl|a
 ·exact h
 ·exact r g a
def J (c:yO) (n:Sz) (b:Fr) (M L:List bH) (G:Act->World->Prop):Prop:=∀a w,I_ n b a->St c M L w->G a w
section rules
variable {P:Program} {rd:Option Nat} {c:yO} {n:Sz} {σ σ':Fr} {M M' L L':List bH} {G G':Act->World->Prop} {Q:Exit->Act->World->Prop}
theorem Ws (h:J c n σ M L G) (g:∀a w,G a w->G' a w):J c n σ M L G':=λa w s t=>g a w (h a w s t)
theorem acz (h:J c n σ' M' L' G) (e:Cb σ σ') (d:aZ M M') (b:∀f∈L',f∈L):J c n σ M L G:=
 λa w s t=>h a w (s.weak e) (t.weak d b)
theorem aL {x y:Code} (h:J c n σ M L (x.wpr rd P (Exit.then (y.wpr rd P Q) Q))):J c n σ M L ((Code.seq x y).wpr rd P Q):=λa w s t=>UV (h a w s t)
theorem aS {id:Nat} {x:Code} (h:J c n σ M L (x.wpr rd P (Exit.inBlock id Q))):J c n σ M L ((Code.block id x).wpr rd P Q):=λa w s t=>Od (h a w s t)
theorem eM (h:J c n σ M L (Q .normal)):J c n σ M L (Code.skip.wpr rd P Q):=λa w s t=>RO (h a w s t)
theorem rP {id:Nat} (h:J c n σ M L (Q (.exit id))):J c n σ M L ((Code.exit id).wpr rd P Q):=λa w s t=>RN (h a w s t)
theorem aR (h:J c n σ M L (Q .ret)):J c n σ M L (Code.ret.wpr rd P Q):=λa w s t=>UU (h a w s t)
theorem Oi {x:Operand} {e d:Code} {b:Bool} (i:ev σ x=some (.bool b)) (g:b=true->J c n σ M L (e.wpr rd P Q)) (f:b=false->J c n σ M L (d.wpr rd P Q)):
  J c n σ M L ((Code.cond x e d).wpr rd P Q):=λa w s t=>Gr (s.eval i) (λh=>g h a w s t) (λh=>f h a w s t)
theorem Ol {x:Operand} {a b:Code} (d:ev σ x=some (.bool true)) (h:J c n σ M L (a.wpr rd P Q)):J c n σ M L ((Code.cond x a b).wpr rd P Q):=Oi d (λ_=>h) (λh=>by cases h)
theorem Oj {x:Operand} {d a:Code} (b:ev σ x=some (.bool false)) (h:J c n σ M L (a.wpr rd P Q)):J c n σ M L ((Code.cond x d a).wpr rd P Q):=Oi b (λh=>by cases h) (λ_=>h)
theorem aQ {id:Nat} {l:List Oper} (h:J c n σ M L (wpList P l.toArray Q l)) (b:l.all kB=true:=by rfl):J c n σ M L ((Code.region id l.toArray false).wpr rd P Q):=λa w s t=>vG b (h a w s t)
theorem fJ {a:Array Oper} (h:J c n σ M L (Q .normal)):J c n σ M L (wpList P a Q []):=h
variable {K:Act->World->Prop}
theorem Gt (h:J c n σ M L K):J c n σ M L (Exit.then K Q .normal):=h
theorem fX {id:Nat} (h:J c n σ M L (Q (.exit id))):J c n σ M L (Exit.then K Q (.exit id)):=h
theorem aG (h:J c n σ M L (Q .ret)):J c n σ M L (Exit.then K Q .ret):=h
theorem aiU {id:Nat} (h:J c n σ M L (Q .normal)):J c n σ M L (Exit.inBlock id Q .normal):=h
theorem bI {id:Nat} (h:J c n σ M L (Q .ret)):J c n σ M L (Exit.inBlock id Q .ret):=h
theorem yQ {id:Nat} (h:J c n σ M L (Q .normal)):J c n σ M L (Exit.inBlock id Q (.exit id)):=λa w s t=>by
 simp only[Exit.inBlock,if_true];exact h a w s t
def Inv {X:Type} (c:yO) (n:Sz) (C:X->Prop) (b:X->Fr) (e d:X->List bH) (f:X->Nat) (m:Nat) (a:Act) (w:World):Prop:=
 ∃x,C x/\f x<m/\I_ n (b x) a/\St c (e x) (d x) w
theorem Wr {X:Type} {d:Code} (C:X->Prop) (o:X->Fr) (D B:X->List bH) (H:X->Nat) (A:X) (h0:C A)
  (U:Cb σ (o A)) (hM:aZ M (D A)) (hL:∀f∈B A,f∈L)
  (r:∀x,C x->J c n (o x) (D x) (B x) (d.wpr rd P (Exit.then (Inv c n C o D B H (H x)) Q))):J c n σ M L ((Code.loop d).wpr rd P Q):=by
 intro a w s t b k I T O S;have Y:∀m x a w,H x=m->C x->I_ n (o x) a->St c (D x) (B x) w->
   ∃e E F,Q e E F/\ArrivesIn (Machine.fenced P (FR rd)) P (lone (b.atR a (.code d :: .inLoop d::k)) I w) b k I e E F:=by
  intro m
  induction m using Nat.strongRecOn with
  | _ m ih =>
   intro x a w hm hC U ht;obtain⟨e,h,i,p,g⟩:=r x hC a w U ht b (.inLoop d::k) I T O S;cases e with
   |normal=>
    obtain⟨y,N,R,V,W⟩:=p;obtain⟨v,u,z,q,j⟩:=ih (H y) (hm▸R) y h i Z N V W;exact⟨v,u,z,q,.of_steps (StepsIn.trans g (.one (fenced_calm O S Z) stepR_inLoop)) j⟩
   |exit id=>exact⟨_,h,i,p,.pass (x:= .inLoop d) Z (λ_ _=> .inl (by simp)) g⟩
   |goto l=>exact⟨_,h,i,p,.pass (x:= .inLoop d) Z (λ_ _=> .inl (by simp)) g⟩
   |ret=>exact⟨_,h,i,p,.pass (x:= .inLoop d) Z (λ_ _=> .inl (by simp)) g⟩
   |panic ch=>exact⟨_,h,i,p,.pass (x:= .inLoop d) Z (λ_ _=> .inl (by simp)) g⟩
   |outgrown=>exact⟨_,h,i,p,.pass (x:= .inLoop d) Z (λ_ _=> .inl (by simp)) g⟩
 obtain⟨e,E,F,p,g⟩:=Y _ A a w Z h0 (s.weak U) (t.weak hM hL);exact⟨e,E,F,p,.of_steps (.one (fenced_calm O S Z) stepR_loop) g⟩
def Y (P:Program) (c:yO) (n:Sz) (σ:Fr) (M L:List bH) (o:Oper) (v:V0):Prop:=
 ∀a w,I_ n σ a->St c M L w->(execOp a.eval o).run P w = .ok (.value v) w
theorem mS {d:Array Oper} {b:List Oper} {o:Oper} {a:Act} {w:World} (e:Region.wanted o (yielded d a.tmps)=true)
  (h:o.wp P a w (wpList P d Q b) Q):wpList P d Q (o::b) a w:=by
 unfold wpList;rw[if_pos e];exact .inl h
theorem aB {f:Array Oper} {b:List Oper} {d:Nat} {i:Op} {j:TypeId} {g:String} {e:Array Edge} {v:V0}
  (l:Y P c n σ M L ⟨some d,i,j,g,e,none⟩ v) (k:Nat.blt d n.sz=true) (h:J c n ((d,v)::σ) M L (wpList P f Q b)):
  J c n σ M L (wpList P f Q (⟨some d,i,j,g,e,none⟩::b)):=λa w s t=>
 mS Z (by simp only[Oper.wp,l a w s t,Oper.upon];exact h _ w (s.put d v k) t)
def gv (a:Array Oper) (σ:Fr) (j:Nat):Option Bool:=
 match ((a[j]?).bind (·.dst)).bind (lk σ)with
 |some (.bool b)=>some b
 |_=>none
theorem Be {e:Array Oper} {j:Nat} {b:Bool} {a:Act} (s:I_ n σ a) (h:gv e σ j=some b):yielded e a.tmps j=some b:=by
 unfold gv at h;unfold yielded;cases g:(e[j]?).bind (·.dst)with
 |none=>simp[g]at h
 | some d =>
  simp only[g,Option.bind_some]at h ⊢;cases f:lk σ d with
  |none=>simp[f]at h
  |some v=>
   rw[s.slot d v f];rw[f]at h;cases v<;>first|exact h|cases h
theorem aT {f:Array Oper} {e:List Oper} {d:Nat} {k:Op} {l:TypeId} {i:String} {g:Array Edge} {j:Nat} {b:Bool} {v:V0}
  (o:gv f σ j=some b) (p:Y P c n σ M L ⟨some d,k,l,i,g,some (j,b)⟩ v) (m:Nat.blt d n.sz=true) (h:J c n ((d,v)::σ) M L (wpList P f Q e)):
  J c n σ M L (wpList P f Q (⟨some d,k,l,i,g,some (j,b)⟩::e)):=λa w s t=>
 mS (by simp[Region.wanted,Be s o]) (by simp only[Oper.wp,p a w s t,Oper.upon];exact h _ w (s.put d v m) t)
theorem Wq {f:Array Oper} {e:List Oper} {d:Nat} {p:Op} {q:TypeId} {i:String} {g:Array Edge} {j:Nat} {b k:Bool}
  (o:gv f σ j=some k) (l:(k==b)=false) (m:Nat.blt d n.sz=true) (h:J c n ((d,undef)::σ) M L (wpList P f Q e)):
  J c n σ M L (wpList P f Q (⟨some d,p,q,i,g,some (j,b)⟩::e)):=λa w s t=>by
 unfold wpList;rw[if_neg (by simp[Region.wanted,Be s o,l])];exact h _ w (s.put d undef m) t
theorem I_.over {n:Sz} {σ:Fr} {a:Act} (h:I_ n σ a) {d:Nat} {v:V0} (f:a.tmps[d]? = some v):I_ n ((d,v)::σ) a:=
 ⟨h.defers,h.size,λt u b=>by
  simp only[lk]at b;by_cases e:t=d
  ·subst e;simp at b;subst b;exact f
  ·rw[oZ e]at b;exact h.slot t u b⟩
theorem tD {f:Array Oper} {e:List Oper} {d:Option Tmp} {l:Op} {m:TypeId} {h:String} {g:Array Edge} {j k:Nat} {i b:Bool}
  (_:(f[j]?).bind (·.dst)=some k) (o:lk σ k=some (.bool i)) (q:i=true->J c n ((k,.bool true)::σ) M L (wpList P f Q (⟨d,l,m,h,g,some (j,b)⟩::e)))
  (p:i=false->J c n ((k,.bool false)::σ) M L (wpList P f Q (⟨d,l,m,h,g,some (j,b)⟩::e))):
  J c n σ M L (wpList P f Q (⟨d,l,m,h,g,some (j,b)⟩::e)):=by
 cases i
 ·exact λa w s t=>p Z a w (s.over (s.slot _ _ o)) t
 ·exact λa w s t=>q Z a w (s.over (s.slot _ _ o)) t
theorem Wp {e:Array Oper} {a:List Oper} {d:Option Tmp} {k:Op} {l:TypeId} {g:String} {f:Array Edge} {j i:Nat} {p:Prop} {_:Decidable p} {b:Bool}
  (m:(e[j]?).bind (·.dst)=some i) (q:lk σ i=some (.bool (decide p))) (r:p->J c n ((i,.bool true)::σ) M L (wpList P e Q (⟨d,k,l,g,f,some (j,b)⟩::a)))
  (o:¬p->J c n ((i,.bool false)::σ) M L (wpList P e Q (⟨d,k,l,g,f,some (j,b)⟩::a))):
  J c n σ M L (wpList P e Q (⟨d,k,l,g,f,some (j,b)⟩::a)):=
 tD m q (λh=>r (zB2 h)) (λh=>o (of_decide_eq_false h))
theorem ZD {x:Operand} {b a:Code} {p:Prop} {_:Decidable p} (f:ev σ x=some (.bool (decide p))) (e:p->J c n σ M L (b.wpr rd P Q)) (d:¬p->J c n σ M L (a.wpr rd P Q)):
  J c n σ M L ((Code.cond x b a).wpr rd P Q):=Oi f (λh=>e (zB2 h)) (λh=>d (of_decide_eq_false h))
end rules
structure Ty where
 desc:TypeDesc
 size:Nat
 bytes:Nat
 zero:V0
structure tS (P:Program) (T:Nat) (d:Ty):Prop where
 und:P.underlying T=some d.desc
 info:∃i,P.info? T=some i/\i.size=d.size/\i.bytes=d.bytes/\i.zero=some d.zero
class d_ (P:Program) where
 tab:Nat->Option Ty
 ok:∀{T d},tab T=some d->tS P T d
section
variable {P:Program} {T:Nat} {d:Ty} (w:World)
theorem tS.run_und (h:tS P T d):(underlying T).run P w = .ok d.desc w:=run_underlying h.und w
theorem tS.run_size (h:tS P T d):(sizeOf T).run P w = .ok d.size w:=by
 obtain⟨i,a,b,_,_⟩:=h.info;simp[sizeOf,typeInfo,a,b]
theorem tS.run_zero (h:tS P T d):(zeroValue T).run P w = .ok d.zero w:=by
 obtain⟨i,a,_,_,b⟩:=h.info;simp[zeroValue,typeInfo,a,b]
def Bb:TypeDesc->Bool
 | .struct _ | .array _ _=>true
 |_=>false
theorem tS.run_agg (h:tS P T d):(isAgg T).run P w = .ok (Bb d.desc) w:=by
 simp only[isAgg];simp[h.run_und w];cases d.desc<;>rfl
end
section
variable {P:Program} {rd:Option Nat} {c:yO} {n:Sz} {σ:Fr} {M L:List bH}
variable {d:Option Tmp} {ty:TypeId} {pos:String} {aft:Array Edge} {g:Option (Nat×Bool)}
theorem eO {x:Operand} {v:V0} (b:ev σ x=some v):Y P c n σ M L ⟨d,.move x,ty,pos,aft,g⟩ v:=λa w s _=>by
 simp[execOp,s.eval b]
theorem yU {x:Operand} {v:V0} (b:ev σ x=some v):Y P c n σ M L ⟨d,.assign x,ty,pos,aft,g⟩ v:=λa w s _=>by
 simp[execOp,s.eval b]
theorem GA {x y z:Operand} {v:V0} (b:ev σ x=some (.bool true)) (e:ev σ y=some v):Y P c n σ M L ⟨d,.pick x y z,ty,pos,aft,g⟩ v:=λa w s _=>by
 simp[execOp,s.eval b,s.eval e,asBool]
theorem Ii {x y z:Operand} {v:V0} (b:ev σ x=some (.bool false)) (e:ev σ z=some v):Y P c n σ M L ⟨d,.pick x y z,ty,pos,aft,g⟩ v:=λa w s _=>by
 simp[execOp,s.eval b,s.eval e,asBool]
theorem Oe {x:Int} (a : -9223372036854775808<=x) (b:x<=9223372036854775807):IntKind.i64.wrap x=x:=by
 unfold IntKind.wrap;simp only[IntKind.bits,IntKind.signed];simp;omega
theorem pD {a:BinOp} {t:TypeId} {x y:Operand} {k b:IntKind} {p q:Int} (w:World):(eqGuard a t x y (.int k p) (.int b q)).run P w = .ok () w:=by
 unfold eqGuard;cases a<;>simp
theorem Nm {t f:TypeId} {x y:Operand} {k:IntKind} {p q:Int} (b:ev σ x=some (.int k p)) (e:ev σ y=some (.int k q)) (h:q≠0):
  Y P c n σ M L ⟨d,.binOp .rem t x y f,ty,pos,aft,g⟩ (.int k (p.tmod q)):=λa w s _=>by
 simp[execOp,s.eval b,s.eval e,binOp,Op.intDiv,pD,h]
theorem CO {t f:TypeId} {x y:Operand} {k:IntKind} {p q:Int} (b:ev σ x=some (.int k p)) (e:ev σ y=some (.int k q)):
  Y P c n σ M L ⟨d,.binOp .lss t x y f,ty,pos,aft,g⟩ (.bool (decide (p<q))):=λa w s _=>by
 simp[execOp,s.eval b,s.eval e,binOp,Op.intCmp,pD]
theorem Cp {t f:TypeId} {x y:Operand} {k:IntKind} {p q:Int} (b:ev σ x=some (.int k p)) (e:ev σ y=some (.int k q)):
  Y P c n σ M L ⟨d,.binOp .leq t x y f,ty,pos,aft,g⟩ (.bool (decide (p<=q))):=λa w s _=>by
 simp[execOp,s.eval b,s.eval e,binOp,Op.intCmp,pD]
theorem tH {t f:TypeId} {x y:Operand} {k:IntKind} {p q:Int} (b:ev σ x=some (.int k p)) (e:ev σ y=some (.int k q)):
  Y P c n σ M L ⟨d,.binOp .gtr t x y f,ty,pos,aft,g⟩ (.bool (decide (q<p))):=λa w s _=>by
 simp[execOp,s.eval b,s.eval e,binOp,Op.intCmp,pD]
theorem yV {t f:TypeId} {x y:Operand} {k:IntKind} {p q:Int} (b:ev σ x=some (.int k p)) (e:ev σ y=some (.int k q)):
  Y P c n σ M L ⟨d,.binOp .geq t x y f,ty,pos,aft,g⟩ (.bool (decide (q<=p))):=λa w s _=>by
 simp[execOp,s.eval b,s.eval e,binOp,Op.intCmp,pD]
theorem JV {t f:TypeId} {x y:Operand} {k:IntKind} {p q:Int} (b:ev σ x=some (.int k p)) (e:ev σ y=some (.int k q)):
  Y P c n σ M L ⟨d,.binOp .eql t x y f,ty,pos,aft,g⟩ (.bool (decide (p=q))):=λa w s _=>by
 simp[execOp,s.eval b,s.eval e,binOp,Op.intCmp,pD];by_cases h:p=q<;>simp[h]
theorem BP {t f:TypeId} {x y:Operand} {k:IntKind} {p q:Int} (b:ev σ x=some (.int k p)) (e:ev σ y=some (.int k q)):
  Y P c n σ M L ⟨d,.binOp .neq t x y f,ty,pos,aft,g⟩ (.bool (decide (p≠q))):=λa w s _=>by
 simp[execOp,s.eval b,s.eval e,binOp,Op.intCmp,pD];by_cases h:p=q<;>simp[h]
theorem kM {t:TypeId} {x:Operand} {b:Bool} (e:ev σ x=some (.bool b)):Y P c n σ M L ⟨d,.unOp .not t x,ty,pos,aft,g⟩ (.bool (!b)):=λa w s _=>by
 simp[execOp,s.eval e,Op.unary]
theorem qS {x:Operand} {vs:List V0} {i:Nat} {v:V0} (e:ev σ x=some (.tuple vs.toArray)) (b:vs[i]? = some v):Y P c n σ M L ⟨d,.extract x i,ty,pos,aft,g⟩ v:=λa w s _=>by
 simp[execOp,s.eval e,Instr.extract,b]
theorem Hj {t f:TypeId} {x y:Operand} {k:IntKind} {p q:Int} (b:ev σ x=some (.int k p)) (e:ev σ y=some (.int k q)):
  Y P c n σ M L ⟨d,.call ⟨.builtin .max,#[x,y],#[t,f]⟩,ty,pos,aft,g⟩ (.int k (max p q)):=λa w s _=>by
 simp[execOp,resolve,invoke,builtin,s.eval b,s.eval e,Builtin.max_,Builtin.max2];split<;>omega
theorem Nl {t f:TypeId} {x y:Operand} {k:IntKind} {p q:Int} (b:ev σ x=some (.int k p)) (e:ev σ y=some (.int k q)):
  Y P c n σ M L ⟨d,.call ⟨.builtin .min,#[x,y],#[t,f]⟩,ty,pos,aft,g⟩ (.int k (min p q)):=λa w s _=>by
 simp[execOp,resolve,invoke,builtin,s.eval b,s.eval e,Builtin.min_,Builtin.min2];split<;>omega
theorem HE {e:Fn} {cs:List Operand} {vs:List V0} (b:cs.map (ev σ)=vs.map some):Y P c n σ M L ⟨d,.makeFunc e #[] cs.toArray,ty,pos,aft,g⟩ (.func e #[] vs.toArray):=λa w s _=>by
 have:cs.map a.eval=vs:=by
  induction cs generalizing vs with
  |nil=>cases vs<;>simp_all
  |cons x cs f=>
   cases vs with
   |nil=>simp at b
   |cons v vs=>simp at b;simp[s.eval b.1,f b.2]
 simp[execOp,Instr.makeFunc,this]
end
def at' {a:Type} [Inhabited a] (xs:List a) (i:Int):a:=xs.getD i.toNat default
theorem cX {a:Type} [Inhabited a] {xs:List a} {i:Int} (b:0<=i) (h:i<xs.length):xs[i.toNat]? = some (at' xs i):=by
 unfold at';rw[zAd,zA2 (by omega)];rfl
theorem mV {b:Type} [Inhabited b] (a:List b) (i:Nat):at' a (i:Int)=a.getD i default:=by simp[at']
def Kr (v:V0) (o:Nat):Addr:=match v with
 | .slice (some a) _ _=>a.add o
 |_=>⟨0,o,none⟩
def EL (v:V0) (o:Nat):V0:= .pointer (some (Kr v o))
theorem Of (a:Addr) (o p:Nat):(a.add o).add p=a.add (o+p):=by
 unfold Addr.add;by_cases b:o=0<;>by_cases c:p=0<;>simp[b,c,Nat.add_assoc]
theorem KL (v:V0) (o p:Nat):(Kr v o).add p=Kr v (o+p):=by
 unfold Kr;split
 ·exact Of _ _ _
 ·unfold Addr.add;split<;>simp_all
theorem fF (b a o:Nat):(⟨b,a,none⟩:Addr).add o=⟨b,a+o,none⟩:=by
 unfold Addr.add;split<;>simp_all
def bL (b:Nat) (cs:List V0) (T:TypeId):bH where
 p w F:=F b/\w.heap[b]? = some (.cells cs.toArray T (0,0))
 mono:=fun⟨c,a⟩ h=>by
  obtain⟨d,e⟩:=h b c (zAj.1 a).1;exact⟨d,by rw[e];exact a⟩
theorem bL.cell {b:Nat} {cs:List V0} {T:TypeId} {w:World} {F:Nat->Prop} (h:(bL b cs T).p w F) {o:Nat} {v:V0} (a:cs[o]? = some v):w.cell? ⟨b,o,none⟩=some v:=by
 simp[World.cell?,h.2,a]
theorem Wj {b:Nat} {a:List V0} {T:TypeId} {w:World} {F:Nat->Prop} (h:(bL b a T).p w F) (o:Nat):w.frozen? ⟨b,o,none⟩=false:=by
 simp[World.frozen?,h.2]
theorem St.res {c:yO} {M L:List bH} {w:World} (t:St c M L w) {i:Nat} {m:bH} (h:M[i]? = some m):∃F,m.p w F:=by
 obtain⟨_,F,a,_⟩:=t;exact⟨_,a.res i m h⟩
theorem St.fact {c:yO} {M L:List bH} {w:World} (t:St c M L w) {f:bH} (h:f∈L):∃S,f.p w S:=by
 obtain⟨_,F,_,a⟩:=t;exact⟨_,a f h⟩
structure eJ (α:Type) where
 sz:Nat
 pos:0<sz
 R:World->(Nat->Prop)->List V0->α->Prop
 len:∀{w S cs x},R w S cs x->cs.length=sz
 mono:∀{w w':World} {S S':Nat->Prop} {cs x},R w S cs x->(∀k,S k->k<w.heap.size->S' k/\w'.heap[k]? = w.heap[k]?)->R w' S' cs x
def FC {h:Type} (r:eJ h) (w:World) (S:Nat->Prop) (v:V0) (f:List h):Prop:=
 ∃a c,v = .slice a f.length c/\(f.length<=9223372036854775807/\f.length<=c)/\(f=[]\/∃b d,a=some ⟨b,d,none⟩/\S b/\
  ∀i x,f[i]? = some x->∃g,(∀j e,g[j]? = some e->w.cell? ⟨b,d+(i*r.sz+j),none⟩=some e)/\r.R w S g x)
theorem Vm {w a:World} {b o:Nat} {e:V0} (h:w.cell? ⟨b,o,none⟩=some e) (c:a.heap[b]? = w.heap[b]?):a.cell? ⟨b,o,none⟩=some e:=by
 rw[<-h];exact World.cell?_of_block c
theorem S_ {w:World} {b o:Nat} {e:V0} (h:w.cell? ⟨b,o,none⟩=some e):b<w.heap.size:=World.block_lt_of_cell? w _ h
theorem FC.mono {q:Type} {r:eJ q} {w w':World} {S p:Nat->Prop} {v:V0} {f:List q} (h:FC r w S v f)
  (e:∀k,S k->k<w.heap.size->p k/\w'.heap[k]? = w.heap[k]?):FC r w' p v f:=by
 obtain⟨a,g,C,z,h⟩:=h;refine⟨a,g,C,z,?_⟩
 rcases h with h|⟨b,o,y,t,h⟩
 ·exact .inl h
 ·cases f with
  |nil=>exact .inl Z
  |cons F f=>
   obtain⟨d,c,n⟩:=h 0 F Z;have G:=r.len n;have A:=r.pos;have s:d[0]? = some (d[0]'(by omega)):=zA2 _;have m:=S_ (c 0 _ s);obtain⟨l,D⟩:=e b t m;refine .inr ⟨b,o,y,l,λi x E=> ?_⟩;obtain⟨d,c,n⟩:=h i x E;exact⟨d,λj u B=>Vm (c j u B) D,r.mono n e⟩
def Sl {a:Type} (r:eJ a) (v:V0) (b:List a):bH where
 p w S:=FC r w S v b
 mono:=λh e=>h.mono e
def eJ.int (k:IntKind):eJ Int where
 sz:=1
 pos:=Nat.one_pos
 R _ _ cs x:=cs=[.int k x]
 len h:=by simp[h]
 mono h _:=h
def eJ.sl {a:Type} (r:eJ a):eJ (V0×List a) where
 sz:=1
 pos:=Nat.one_pos
 R w S cs x:=cs=[x.1]/\FC r w S x.1 x.2
 len h:=by simp[h.1]
 mono h e:=⟨h.1,h.2.mono e⟩
def eJ.pair {g i:Type} (r:eJ g) (s:eJ i):eJ (g×i) where
 sz:=r.sz+s.sz
 pos:=zB4 r.pos (Nat.le_add_right _ _)
 R w S cs x:=∃a b,cs=a++b/\r.R w S a x.1/\s.R w S b x.2
 len h:=by obtain⟨a,b,f,c,d⟩:=h;simp[f,r.len c,s.len d]
 mono h e:=by obtain⟨a,b,f,c,d⟩:=h;exact⟨a,b,f,r.mono c e,s.mono d e⟩
def eJ.Cell {a:Type} (r:eJ a) (j:Nat) (f:a->V0):Prop:=∀{w S es x},r.R w S es x->es[j]? = some (f x)
theorem Ou (k:IntKind):(eJ.int k).Cell 0 (λx=> .int k x):=λh=>by simp[show _=[_]from h]
theorem eJ.sl_cell {a:Type} (r:eJ a):(eJ.sl r).Cell 0 (λx=>x.1):=λh=>by simp[h.1]
theorem kY {b e:Type} {r:eJ b} {s:eJ e} {j:Nat} {f:b->V0} (h:r.Cell j f):(r.pair s).Cell j (λx=>f x.1):=by
 rintro w S i x ⟨c,g,rfl,d,_⟩;have:=h d;rw[zAc (by
  rcases zAu j c.length with a|a
  ·exact a
  ·rw[zAo a]at this;cases this)]
 exact this
theorem dK {d b:Type} {r:eJ d} {s:eJ b} {j:Nat} {f:b->V0} (h:s.Cell j f):(r.pair s).Cell (r.sz+j) (λx=>f x.2):=by
 rintro w S i x ⟨e,g,rfl,a,c⟩;rw[zAb (by rw[r.len a];omega),r.len a,Nat.add_sub_cancel_left];exact h c
section
variable {P:Program} {rd:Option Nat} {c:yO} {n:Sz} {σ:Fr} {M L:List bH}
variable {d:Option Tmp} {ty:TypeId} {pos:String} {aft:Array Edge} {g:Option (Nat×Bool)}
variable {α:Type} {r:eJ α}
theorem Pk {T:TypeId} {e:Ty} {E:TypeId} (w:World) (f:tS P T e) (h:e.desc = .slice E) (a:Option Addr) (k b:Nat) (ty:TypeId):
  (Builtin.len_ #[T] ty #[.slice a k b]).run P w = .ok (.int .i64 k) w:=by
 simp[Builtin.len_,f.run_und w,h,goInt]
theorem JC {T E:TypeId} {h f:Ty} (w:World) (o:tS P T h) (p:h.desc = .slice E) (m:tS P E f) (b e k a:Nat) (i:Int) (j:0<=i) (l:i<k):
  (Instr.indexAt T (.slice (some ⟨b,e,none⟩) k a) (.int .i64 i)).run P w = .ok (EL (.slice (some ⟨b,e,none⟩) k a) (i.toNat*f.size)) w:=by
 simp[Instr.indexAt,asIntOf,o.run_und w,p,m.run_size w,j,l,EL,Kr]
theorem cZ [d_ P] {T:TypeId} {D E h F:Nat} {z H:V0} {i:Array Field} {B G C:String} {m:Bool} {j b k:Nat} {l:TypeDesc} {x:Operand} {v:V0} {o f:Nat} (A:ev σ x=some (EL v o))
  (u:d_.tab P T=some ⟨.struct i,D,E,z⟩) (y:i[f]? = some ⟨B,j,b,m,G,C,k⟩) (q:d_.tab P j=some ⟨l,h,F,H⟩) (p:(h==0)=false):
  Y P c n σ M L ⟨d,.fieldAddr T x f,ty,pos,aft,g⟩ (EL v (o+b)):=λa w s t=>by
 have e:h≠0:=by simpa using p
 simp[execOp,s.eval A,Instr.fieldAt,(d_.ok u).run_und w,y,Instr.sureAddr,EL,fieldPlace,(d_.ok q).run_size w,e,KL]
theorem CL {T:TypeId} {a:Ty} {w:World} (b:tS P T a) (f:Bb a.desc=false) {A:Addr} {e:V0} (h:w.cell? A=some e):
  (Instr.loadAt T (.pointer (some A))).run P w = .ok e w:=by
 simp[Instr.loadAt,Instr.sureAddr,loadVar,b.run_agg w,f,load,Sem.run,h]
theorem sl_cell {w:World} {S:Nat->Prop} {v:V0} {l:List α} (h:FC r w S v l) {i:Nat} {x:α} (k:l[i]? = some x):
  ∃a,r.R w S a x/\∀j e,a[j]? = some e->w.cell? (Kr v (i*r.sz+j))=some e:=by
 obtain⟨t,m,q,_,h⟩:=h;rcases h with h|⟨b,s,rfl,_,h⟩
 ·subst h;simp at k
 ·obtain⟨a,f,p⟩:=h i x k;refine⟨a,p,λj e o=> ?_⟩
  subst q;simp only[Kr,fF];exact f j e o
end
section
variable {P:Program} {rd:Option Nat} {c:yO} {n:Sz} {σ:Fr} {M L:List bH} {Q:Exit->Act->World->Prop} {ops:Array Oper} {rest:List Oper}
variable {d:Option Tmp} {D:Nat} {ty:TypeId} {pos:String} {aft:Array Edge} {g:Option (Nat×Bool)}
theorem cR [d_ P] {T:TypeId} {C E i F:Nat} {z H:V0} {j:Array Field} {A G B:String} {p:Bool} {k e l:Nat} {m:TypeDesc} {x:Operand} {b o f:Nat} (y:ev σ x=some (.pointer (some ⟨b,o,none⟩)))
  (u:d_.tab P T=some ⟨.struct j,C,E,z⟩) (v:j[f]? = some ⟨A,k,e,p,G,B,l⟩) (r:d_.tab P k=some ⟨m,i,F,H⟩) (q:(i==0)=false):
  Y P c n σ M L ⟨d,.fieldAddr T x f,ty,pos,aft,g⟩ (.pointer (some ⟨b,o+e,none⟩)):=λa w s t=>by
 have h:i≠0:=by simpa using q
 simp[execOp,s.eval y,Instr.fieldAt,(d_.ok u).run_und w,v,Instr.sureAddr,fieldPlace,(d_.ok r).run_size w,h,fF]
theorem dL [d_ P] (i:Nat) {T f:TypeId} {q r:Nat} {z:V0} {e:TypeDesc} {x:Operand} {b o:Nat} {cs:List V0} {v:V0} (p:ev σ x=some (.pointer (some ⟨b,o,none⟩)))
  (j:M[i]? = some (bL b cs f)) (k:d_.tab P T=some ⟨e,q,r,z⟩) (l:Bb e=false) (m:cs[o]? = some v):
  Y P c n σ M L ⟨d,.load T x,ty,pos,aft,g⟩ v:=λa w s t=>by
 obtain⟨F,h⟩:=t.res j;simp[execOp,s.eval p,CL (d_.ok k) l (bL.cell h m)]
theorem BX {T:TypeId} {a:Ty} {w:World} (b:tS P T a) (e:Bb a.desc=true) {A:Addr} {cs:List V0} (f:cs.length=a.size) (h:∀j v,cs[j]? = some v->w.cell? (A.add j)=some v):
  (Instr.loadAt T (.pointer (some A))).run P w = .ok (.agg cs.toArray) w:=by
 have:=run_loadCells_list (P:=P) w A cs h;simp[Instr.loadAt,Instr.sureAddr,loadVar,b.run_agg w,e,b.run_size w,<-f,this]
theorem gV [d_ P] (i:Nat) {T f:TypeId} {q:Nat} {z:V0} {e:TypeDesc} {x:Operand} {b:Nat} {cs:List V0} (p:ev σ x=some (.pointer (some ⟨b,0,none⟩)))
  (k:M[i]? = some (bL b cs f)) (l:d_.tab P T=some ⟨e,cs.length,q,z⟩) (m:Bb e=true):
  Y P c n σ M L ⟨d,.load T x,ty,pos,aft,g⟩ (.agg cs.toArray):=λa w s t=>by
 obtain⟨F,h⟩:=t.res k;have:=BX (w:=w) (A:=⟨b,0,none⟩) (cs:=cs) (d_.ok l) m Z (λj v o=>by rw[fF,Nat.zero_add];exact bL.cell h o);simp[execOp,s.eval p,this]
theorem St.alloc {w:World} (t:St c M L w) (cs:List V0) (T:TypeId):St c (bL w.heap.size cs T::M) L (w.alloc (.cells cs.toArray T)):=by
 have e:Nb w (w.alloc (.cells cs.toArray T)):=(Below.refl _ _).alloc (zAe _) _;obtain⟨s,F,a,u⟩:=t;have r:∀k,k<w.heap.size->(w.alloc (.cells cs.toArray T)).heap[k]? = w.heap[k]? := e.block;refine⟨s.trans e,λi k=>match i with|0=>k=w.heap.size|i+1=>F i k,⟨?_,?_,?_⟩,λf v=> ?_⟩
 ·intro i m q;cases i with
  |zero=>
   simp at q;subst q;exact⟨rfl,heap_alloc_new w _⟩
  |succ i=>exact bH.same (a.res i m (by simpa using q)) (λ_ h=>h) (λk _ p=>r k p)
 ·intro i k l;cases i with
  |zero=>subst l;exact⟨.inl s.size,by simp⟩
  |succ i=>exact⟨(a.rng i k l).1,zB4 (a.rng i k l).2 e.size⟩
 ·intro i j k b o;cases i with
  |zero=>
   cases j with
   |zero=>rfl
   |succ j=>have:=(a.rng j k o).2;simp only at b;omega
  |succ i=>
   cases j with
   |zero=>have:=(a.rng i k b).2;simp only at o;omega
   |succ j=>exact congrArg (· + 1) (a.dis i j k b o)
 ·exact f.mono (u f v) λk l p=>⟨⟨l.1,λi b=>by
   cases i with
   |zero=>simp only at b;omega
   |succ i=>exact l.2 i b⟩,r k p⟩
theorem JB {T:TypeId} {a:Ty} (w:World) (b:tS P T a):(Instr.alloc T true (.tuple #[])).run P w = .ok (.pointer (some ⟨w.heap.size,0,none⟩)) (w.alloc (.cells a.zero.cells T)):=by
 simp[Instr.alloc,b.run_zero w,newVar,newRow]
theorem Gw {w s:World} {F:Nat->Nat->Prop} (t:Eb c.O c.w0 w) (l:Own c w M F) (S:∀f∈L,f.p w (Dy c F)) {i:Nat} {m R:bH} (N:M[i]? = some m) (I:s.os=w.os) (J:s.tape=w.tape) (v:s.output=w.output) (u:w.heap.size<=s.heap.size)
  (B:∀k,k<w.heap.size->¬F i k->s.heap[k]? = w.heap[k]?) {F':Nat->Prop} (A:R.p s F') (b:∀k,F' k->F i k\/(w.heap.size<=k/\k<s.heap.size)):St c (M.set i R) L s:=by
 refine⟨⟨I.trans t.os,J.trans t.tape,v.trans t.output,zB1 t.size u,λk a K=>(B k (zB4 a t.size) (λE=>(l.rng i k E).1.elim (λh=>by omega) K)).trans (t.block k a K)⟩,λj k=>(j=i/\F' k)\/(j≠i/\F j k),⟨?_,?_,?_⟩,λf T=> ?_⟩
 ·intro j U x;by_cases e:j=i
  ·subst e;have H:j<M.length:=by
    rcases zAu j M.length with o|o
    ·exact o
    ·rw[zAo o]at N;cases N
   rw[zAh H]at x;cases x;exact bH.same A (λk a=> .inl ⟨rfl,a⟩) (λ_ _ _=>rfl)
  ·rw[zAq (Ne.symm e)]at x;exact bH.same (l.res j U x) (λk a=> .inr ⟨e,a⟩) (λk a G=>B k G (λC=>e (l.dis j i k a C)))
 ·rintro j k (⟨_,a⟩|⟨_,a⟩)
  ·rcases b k a with a|⟨q,r⟩
   ·exact⟨(l.rng i k a).1,zB4 (l.rng i k a).2 u⟩
   ·exact⟨.inl (zB1 t.size q),r⟩
  ·exact⟨(l.rng j k a).1,zB4 (l.rng j k a).2 u⟩
 ·rintro V W k (⟨y,q⟩|⟨y,q⟩) (⟨z,r⟩|⟨z,r⟩)
  ·rw[y,z]
  ·rcases b k q with q|⟨q,_⟩
   ·exact absurd (l.dis _ _ k r q) z
   ·have:=(l.rng _ k r).2;omega
  ·rcases b k r with r|⟨r,_⟩
   ·exact absurd (l.dis _ _ k q r) y
   ·have:=(l.rng _ k q).2;omega
  ·exact l.dis _ _ k q r
 ·exact f.mono (S f T) λk a G=>⟨⟨a.1,by
   rintro j (⟨_,o⟩|⟨_,o⟩)
   ·rcases b k o with o|⟨o,_⟩
    ·exact a.2 _ o
    ·omega
   ·exact a.2 _ o⟩,B k G (a.2 i)⟩
theorem St.upd {w w':World} (t:St c M L w) {i:Nat} {m s:bH} (r:M[i]? = some m) (l:w'.os=w.os) (q:w'.tape=w.tape) (a:w'.output=w.output) (o:w.heap.size<=w'.heap.size)
  (h:∀F,m.p w F->(∀k,F k->c.mine k/\k<w.heap.size)->(∀k,k<w.heap.size->¬F k->w'.heap[k]? = w.heap[k]?)/\∃e,s.p w' e/\∀k,e k->F k\/(w.heap.size<=k/\k<w'.heap.size)):
  St c (M.set i s) L w':=by
 obtain⟨x,F,f,u⟩:=t;obtain⟨v,e,j,b⟩:=h (F i) (f.res i m r) (f.rng i);exact Gw x f u r l q a o v j b
end
section
variable {P:Program} {rd:Option Nat} {c:yO} {n:Sz} {σ:Fr} {M L:List bH} {Q:Exit->Act->World->Prop} {ops:Array Oper} {rest:List Oper}
variable {d:Option Tmp} {D:Nat} {ty:TypeId} {pos:String} {aft:Array Edge} {g:Option (Nat×Bool)}
def one:V0->Bool
 | .agg _ | .tuple _=>false
 |_=>true
theorem iY {v:V0} (h:one v=true):v.cells = #[v]:=by cases v<;>first|rfl|cases h
theorem pT {v:V0} (h:one v=true):v.oneCell'=true:=by cases v<;>first|rfl|cases h
theorem Iu {w:World} {b o:Nat} {a:List V0} {T:TypeId} (h:w.heap[b]? = some (.cells a.toArray T (0,0))) (v:V0):
  (w.setCell ⟨b,o,none⟩ v).heap[b]? = some (.cells (a.set o v).toArray T (0,0)):=by
 simp[World.setCell,Array.getElem?_modify,h]
theorem St.store {w:World} (t:St c M L w) {i b o:Nat} {f:List V0} {T:TypeId} (j:M[i]? = some (bL b f T)) (v:V0):
  St c (M.set i (bL b (f.set o v) T)) L (w.setCell ⟨b,o,none⟩ v):=
 t.upd j Z Z Z (by simp[World.setCell]) λF a _=>⟨λk _ l=>Below.heap_setCell _ _ _ _ (λe=>l (by simp only at e;subst e;exact a.1)),
  F,⟨a.1,Iu a.2 v⟩,λ_ h=> .inl h⟩
theorem HS {T:TypeId} {b:Ty} {w:World} (j:tS P T b) (l:b.size=1) {A:Addr} {v e:V0} (f:one v=true) (h:w.cell? A=some e) (k:w.frozen? A=false):
  (Instr.storeAt T (.pointer (some A)) v).run P w = .ok () (w.setCell A v):=by
 have i:A.add 0=A:=rfl;have a:(store A v).run P w = .ok () (w.setCell A v):=by
  unfold store;cases v<;>first|(simp only[Sem.run,h,k];rfl)|cases f
 simp only[Instr.storeAt,Instr.sureAddr,storeVar,iY f];simp[j.run_size w,l,storeCells,i,a]
theorem pJ [d_ P] (i:Nat) {T j:TypeId} {B:Nat} {z:V0} {m:TypeDesc} {x y:Operand} {b o:Nat} {cs:List V0} {v:V0} (u:ev σ x=some (.pointer (some ⟨b,o,none⟩)))
  (A:ev σ y=some v) (r:one v=true) (l:M[i]? = some (bL b cs j)) (p:d_.tab P T=some ⟨m,1,B,z⟩) (q:Nat.blt o cs.length=true)
  (h:J c n σ (M.set i (bL b (cs.set o v) j)) L (wpList P ops Q rest)):
  J c n σ M L (wpList P ops Q (⟨none,.store T x y,ty,pos,aft,none⟩::rest)):=λa w s t=>by
 refine mS Z ?_;obtain⟨F,k⟩:=t.res l;have f:o<cs.length:=by simpa [zAv]using q
 have e:(execOp a.eval ⟨none,.store T x y,ty,pos,aft,none⟩).run P w = .ok .skip (w.setCell ⟨b,o,none⟩ v):=by
  simp[execOp,s.eval u,s.eval A,HS (d_.ok p) Z r (bL.cell k (zA2 f)) (Wj k o)]
 simp only[Oper.wp,e,Oper.upon];exact h _ _ s (t.store l v)
theorem St.fill {w:World} (t:St c M L w) {i b:Nat} {cs a:List V0} {T:TypeId} (j:M[i]? = some (bL b cs T)):
  St c (M.set i (bL b a T)) L (w.setRow b a.toArray):=
 t.upd j Z Z Z (by simp) λF f _=>⟨λk _ l=>setRow_other w b k _ (λe=>l (by subst e;exact f.1)),
  F,⟨f.1,setRow_heap w b _ _ T _ f.2⟩,λ_ h=> .inl h⟩
theorem cG [d_ P] (i:Nat) {T k:TypeId} {H:Nat} {z:V0} {r:TypeDesc} {x y:Operand} {b:Nat} {cs vs:List V0} (E:ev σ x=some (.pointer (some ⟨b,0,none⟩)))
  (G:ev σ y=some (.agg vs.toArray)) (C:vs.all one=true) (q:M[i]? = some (bL b cs k)) (A:d_.tab P T=some ⟨r,vs.length,H,z⟩) (B:Nat.beq vs.length cs.length=true)
  (h:J c n σ (M.set i (bL b vs k)) L (wpList P ops Q rest)):
  J c n σ M L (wpList P ops Q (⟨none,.store T x y,ty,pos,aft,none⟩::rest)):=λa w s t=>by
 refine mS Z ?_;obtain⟨F,u⟩:=t.res q;have e:vs.length=cs.length:=zA7 B;have f:∀v∈vs,v.oneCell'=true:=λv p=>pT (by simpa using zA8.1 C v p);obtain⟨I,l,o,_,_⟩:=(d_.ok A).info;have m:=run_storeVar_row (P:=P) w b k T cs.toArray vs.toArray u.2 (by simp[l,o]) (by simp[e]) (by simpa using f);have j:(execOp a.eval ⟨none,.store T x y,ty,pos,aft,none⟩).run P w = .ok .skip (w.setRow b vs.toArray):=by
  simp[execOp,s.eval E,s.eval G,Instr.storeAt,Instr.sureAddr,m]
 simp only[Oper.wp,j,Oper.upon];exact h _ _ s (t.fill q)
def bD (P:Program) (f:FuncId) (a:Array V0) (L:List bH) {A:Type} (b:A->V0) (k LO:A->List bH->List bH):Prop:=
 ∀(i:World) (j:Nat->Prop),(∀h∈L,h.p i j)->Calls P f a i λe l=>∃x:A,e = .returned (b x)/\St ⟨i,j,λ_=>False⟩ (k x []) (LO x []) l
def aeY (m:Nat) (a F:Nat->Nat->Prop) (i k:Nat):Prop:=(i<m/\a i k)\/(m<=i/\F (i - m) k)
theorem Own.new {w:World} {M:List bH} {F:Nat->Nat->Prop} {a:World} {b:Nat->Prop} (h:Own ⟨a,b,λ_=>False⟩ w M F) {i k:Nat} (e:F i k):a.heap.size<=k:=by
 rcases(h.rng i k e).1 with h|h
 ·exact h
 ·exact h.elim
theorem St.call {w w':World} {v C:List bH} {F:Nat->Nat->Prop} (B:Eb c.O c.w0 w) (q:Own c w M F) (G:∀f∈L,f.p w (Dy c F))
  (t:St ⟨w,Dy c F,λ_=>False⟩ v C w'):St c (v++M) (C++L) w':=by
 obtain⟨o,F',a,y⟩:=t;have o:=o.ext;have E:=o.block;refine⟨B.trans o,aeY v.length F' F,⟨?_,?_,?_⟩,λf hf=> ?_⟩
 ·intro i m x;by_cases e:i<v.length
  ·rw[zAc e]at x;exact bH.same (a.res i m x) (λk b=> .inl ⟨e,b⟩) (λ_ _ _=>rfl)
  ·rw[zAb (by omega)]at x;exact bH.same (q.res _ m x) (λk b=> .inr ⟨by omega,b⟩) (λk _ z=>E k z)
 ·rintro i k (⟨_,b⟩|⟨_,b⟩)
  ·exact⟨.inl (zB1 B.size (a.new b)),(a.rng i k b).2⟩
  ·exact⟨(q.rng _ k b).1,zB4 (q.rng _ k b).2 o.size⟩
 ·rintro i j k (⟨e,r⟩|⟨e,r⟩) (⟨H,s⟩|⟨H,s⟩)
  ·exact a.dis i j k r s
  ·have:=a.new r;have:=(q.rng _ k s).2;simp only at *;omega
  ·have:=a.new s;have:=(q.rng _ k r).2;simp only at *;omega
  ·have:=q.dis _ _ k r s;omega
 ·rcases zB0.1 hf with hf|hf
  ·refine bH.same (y f hf) (λk b=> ?_) (λ_ _ _=>rfl);obtain⟨u,A⟩:=b;have l:Dy c F k\/w.heap.size<=k:=by
    rcases u with h|h|h
    ·exact .inl h
    ·exact .inr h
    ·exact h.elim
   refine⟨?_,?_⟩
   ·rcases l with h|h
    ·exact h.1
    ·exact .inr (.inl (zB1 B.size h))
   ·rintro i (⟨_,e⟩|⟨_,e⟩)
    ·exact A i e
    ·rcases l with h|h
     ·exact h.2 _ e
     ·have:=(q.rng _ k e).2;omega
  ·refine f.mono (G f hf) λk b z=>⟨⟨b.1,?_⟩,E k z⟩
   rintro i (⟨_,e⟩|⟨_,e⟩)
   ·have:=a.new e;omega
   ·exact b.2 _ e
theorem evs {e:List Operand} {b:List V0} {a:Act} (s:I_ n σ a) (h:e.map (ev σ)=b.map some):e.map a.eval=b:=by
 induction e generalizing b with
 |nil=>cases b<;>simp_all
 |cons x e f=>
  cases b with
  |nil=>simp at h
  |cons v b=>simp at h;simp[s.eval h.1,f h.2]
def bB (P:Program) (f:FuncId):Prop:=∀args w,(callFunc f args).run P w = .ok (.enter f args) w
def Qa {A:Type} (c:yO) (a:A->V0) (f b:A->List bH->List bH) (e:Ending) (w:World):Prop:=∃x:A,e = .returned (a x)/\St c (f x []) (b x []) w
def DI:Nat->List V0->Fr
 |_,[]=>[]
 |k,v::vs=>(k,v)::DI (k+1) vs
theorem FU (a:List V0):∀k t v,lk (DI k a) t=some v->k<=t/\a[t - k]? = some v:=by
 induction a with
 |nil=>intro k t v h;simp[DI,lk]at h
 | cons u a ih =>
  intro k t v h;simp only[DI,lk]at h;by_cases e:t=k
  ·subst e;simp at h;subst h;simp
  ·rw[oZ e]at h;obtain⟨f,b⟩:=ih (k+1) t v h;refine⟨by omega,?_⟩
   have:t - k=(t - (k+1))+1:=by omega
   rw[this,List.getElem?_cons_succ];exact b
theorem bD.of {A:Type} {b:A->V0} {u s:A->List bH->List bH} {f:FuncId} {e:Func} {a:Code} {vs:List V0} {m:Nat}
  (p:P.funcs[f]? = some e) (y:e.body=some a) (C:e.ntmps=m) (B:Nat.ble vs.length m=true)
  (h:∀c:yO,J c ⟨m,[]⟩ (DI 0 vs) [] L (a.wpr none P (pN P e (Qa c b u s)))):bD P f vs.toArray L b u s:=λF w x=>by
 have q:vs.length<=m:=by simpa using B
 refine yW p y (h ⟨F,w,λ_=>False⟩ _ _ ⟨rfl,by simp[C,q],?_⟩ ⟨Eb.refl _,λ_ _=>False,⟨?_,?_,?_⟩,?_⟩)
 ·intro t v E;obtain⟨_,l⟩:=FU vs 0 t v E;rw[Nat.sub_zero]at l;have r:t<vs.length:=by
   rcases zAu t vs.length with o|o
   ·exact o
   ·rw[zAo o]at l;cases l
  rw[zBd (by simpa using r)];simpa using l
 ·intro i m h;simp at h
 ·intro i k h;exact h.elim
 ·intro i j k h;exact h.elim
 ·intro f p;exact bH.same (x f p) (λk z=>⟨.inl z,λ_ h=>h⟩) (λ_ _ _=>rfl)
theorem acx {A:Type} {b:A->V0} {j i:A->List bH->List bH} {k:Func} (x:A) (e:Exit) (o:e = .ret\/e = .normal)
  (p:∀a w,I_ n σ a->St c M L w->(results k a.tmps).run P w = .ok (b x) w) (m:aZ M (j x [])) (l:∀f∈i x [],f∈L) (h:n.ds=[]:=by rfl):
  J c n σ M L (pN P k (Qa c b j i) e):=λa w s t=>
 body_end o (s.defers.trans h) (p a w s t) ⟨x,rfl,t.weak m l⟩
theorem YD [d_ P] {T h:TypeId} {o:Nat} {z:V0} {e:TypeDesc} {w:World} {b:Nat} {a:List V0} {F:Nat->Prop} (i:(bL b a h).p w F)
  (f:d_.tab P T=some ⟨e,a.length,o,z⟩) (k:Bb e=true):(loadVar T ⟨b,0,none⟩).run P w = .ok (.agg a.toArray) w:=by
 have l:=run_loadCells_list (P:=P) w ⟨b,0,none⟩ a (λj v m=>by rw[fF,Nat.zero_add];exact bL.cell i m);simp[loadVar,(d_.ok f).run_agg w,k,(d_.ok f).run_size w,l]
end
end Go.Sx
namespace Go.Sx
open Go.Proofs
theorem adD {P:Program} {T:Nat} {i:TypeInfo} (h:P.types[T]? = some i):P.info? T=some i:=by
 unfold Tables.info?;rw[if_pos (zAj.1 h).1];exact h
noncomputable def zOf (i:TypeInfo):V0:=i.zero.getD (.tuple #[])
def eC (d:TypeDesc) (s b:Nat) (i:TypeInfo):Ty:=⟨d,s,b,zOf i⟩
def y2:=eC Tryz.t2.desc 1 8 Tryz.t2
def y3:=eC Tryz.t2.desc 1 8 Tryz.t3
def y4:=eC Tryz.t4.desc 1 1 Tryz.t4
def y5:=eC Tryz.t5.desc 1 1 Tryz.t5
def y6:=eC Tryz.t5.desc 1 1 Tryz.t6
def y7:=eC Tryz.t7.desc 4 24 Tryz.t7
def y8:=eC Tryz.t7.desc 4 24 Tryz.t8
def y9:=eC Tryz.t9.desc 1 16 Tryz.t9
def y10:=eC Tryz.t9.desc 1 16 Tryz.t10
def y11:=eC Tryz.t9.desc 1 16 Tryz.t11
def y12:=eC Tryz.t12.desc 1 8 Tryz.t12
def y13:=eC Tryz.t13.desc 2 24 Tryz.t13
def y14:=eC Tryz.t13.desc 2 24 Tryz.t14
def y15:=eC Tryz.t15.desc 1 8 Tryz.t15
def y16:=eC Tryz.t16.desc 1 8 Tryz.t16
def y17:=eC Tryz.t17.desc 1 8 Tryz.t17
def y18:=eC Tryz.t18.desc 1 8 Tryz.t18
def y19:=eC Tryz.t18.desc 1 8 Tryz.t19
def y20:=eC Tryz.t20.desc 1 16 Tryz.t20
def y21:=eC Tryz.t21.desc 1 4 Tryz.t21
def y22:=eC Tryz.t22.desc 1 24 Tryz.t22
def y23:=eC Tryz.t23.desc 6 88 Tryz.t23
def y24:=eC Tryz.t23.desc 6 88 Tryz.t24
def y25:=eC Tryz.t25.desc 4 96 Tryz.t25
def y26:=eC Tryz.t25.desc 4 96 Tryz.t26
def y27:=eC Tryz.t27.desc 3 24 Tryz.t27
def y28:=eC Tryz.t27.desc 3 24 Tryz.t28
def y29:=eC Tryz.t29.desc 1 24 Tryz.t29
def y30:=eC Tryz.t30.desc 2 48 Tryz.t30
def y31:=eC Tryz.t30.desc 2 48 Tryz.t31
def y32:=eC Tryz.t32.desc 1 8 Tryz.t32
def y33:=eC Tryz.t33.desc 1 24 Tryz.t33
def y34:=eC Tryz.t34.desc 1 24 Tryz.t34
def y35:=eC Tryz.t35.desc 3 64 Tryz.t35
def y36:=eC Tryz.t35.desc 3 64 Tryz.t36
def y37:=eC Tryz.t37.desc 1 8 Tryz.t37
def y39:=eC Tryz.t39.desc 1 24 Tryz.t39
def y40:=eC Tryz.t40.desc 1 24 Tryz.t40
def y41:=eC Tryz.t41.desc 1 24 Tryz.t41
def y42:=eC Tryz.t42.desc 3 72 Tryz.t42
def y43:=eC Tryz.t42.desc 3 72 Tryz.t43
def y44:=eC Tryz.t44.desc 1 8 Tryz.t44
def y46:=eC Tryz.t46.desc 1 8 Tryz.t46
def y47:=eC Tryz.t2.desc 1 8 Tryz.t47
def y49:=eC Tryz.t49.desc 1 8 Tryz.t49
def y52:=eC Tryz.t52.desc 1 8 Tryz.t52
def y53:=eC Tryz.t53.desc 1 4 Tryz.t53
def y56:=eC Tryz.t56.desc 1 8 Tryz.t56
def y57:=eC Tryz.t57.desc 1 24 Tryz.t57
def y60:=eC Tryz.t60.desc 1 8 Tryz.t60
def y64:=eC Tryz.t64.desc 1 8 Tryz.t64
def y72:=eC Tryz.t72.desc 1 8 Tryz.t72
def y73:=eC Tryz.t73.desc 1 8 Tryz.t73
def y77:=eC Tryz.t77.desc 1 24 Tryz.t77
def y79:=eC Tryz.t79.desc 2 16 Tryz.t79
def y80:=eC Tryz.t79.desc 2 16 Tryz.t80
def y81:=eC Tryz.t81.desc 6 56 Tryz.t81
def y82:=eC Tryz.t81.desc 6 56 Tryz.t82
def y86:=eC Tryz.t86.desc 1 24 Tryz.t86
def y89:=eC Tryz.t89.desc 1 24 Tryz.t89
def y90:=eC Tryz.t90.desc 1 8 Tryz.t90
def y92:=eC Tryz.t92.desc 1 8 Tryz.t92
def y95:=eC Tryz.t95.desc 1 8 Tryz.t95
def y106:=eC Tryz.t106.desc 1 8 Tryz.t106
def y107:=eC Tryz.t107.desc 7 136 Tryz.t107
def y108:=eC Tryz.t107.desc 7 136 Tryz.t108
def y112:=eC Tryz.t112.desc 1 8 Tryz.t112
def y113:=eC Tryz.t113.desc 1 8 Tryz.t113
def y120:=eC Tryz.t120.desc 5 32 Tryz.t120
def y124:=eC Tryz.t124.desc 1 24 Tryz.t124
def y127:=eC Tryz.t127.desc 1 8 Tryz.t127
def y128:=eC Tryz.t128.desc 1 24 Tryz.t128
def y129:=eC Tryz.t129.desc 3 64 Tryz.t129
def y130:=eC Tryz.t129.desc 3 64 Tryz.t130
def y131:=eC Tryz.t131.desc 7 152 Tryz.t131
def y132:=eC Tryz.t131.desc 7 152 Tryz.t132
def y137:=eC Tryz.t137.desc 1 8 Tryz.t137
def y138:=eC Tryz.t138.desc 2 16 Tryz.t138
def y146:=eC Tryz.t146.desc 1 8 Tryz.t146
def y152:=eC Tryz.t152.desc 1 8 Tryz.t152
def y153:=eC Tryz.t153.desc 1 8 Tryz.t153
def y154:=eC Tryz.t154.desc 1 8 Tryz.t154
def y156:=eC Tryz.t156.desc 5 96 Tryz.t156
def y157:=eC Tryz.t156.desc 5 96 Tryz.t157
def y159:=eC Tryz.t159.desc 1 8 Tryz.t159
def y175:=eC Tryz.t175.desc 4 32 Tryz.t175
def y176:=eC Tryz.t175.desc 4 32 Tryz.t176
def y179:=eC Tryz.t179.desc 2 16 Tryz.t179
def y180:=eC Tryz.t179.desc 2 16 Tryz.t180
def y189:=eC Tryz.t189.desc 1 24 Tryz.t189
def y190:=eC Tryz.t190.desc 1 24 Tryz.t190
def y191:=eC Tryz.t191.desc 3 64 Tryz.t191
def y192:=eC Tryz.t191.desc 3 64 Tryz.t192
def y196:=eC Tryz.t196.desc 2 16 Tryz.t196
def y197:=eC Tryz.t196.desc 2 16 Tryz.t197
def y198:=eC Tryz.t198.desc 1 24 Tryz.t198
def y202:=eC Tryz.t202.desc 256 256 Tryz.t202
def y203:=eC Tryz.t203.desc 1 8 Tryz.t203
def y205:=eC Tryz.t205.desc 7 144 Tryz.t205
def y206:=eC Tryz.t205.desc 7 144 Tryz.t206
def y207:=eC Tryz.t207.desc 2 32 Tryz.t207
def y208:=eC Tryz.t207.desc 2 32 Tryz.t208
def y212:=eC Tryz.t212.desc 1 8 Tryz.t212
def y213:=eC Tryz.t213.desc 1 8 Tryz.t213
def y216:=eC Tryz.t216.desc 1 8 Tryz.t216
def y221:=eC Tryz.t221.desc 1 8 Tryz.t221
def y223:=eC Tryz.t223.desc 1 8 Tryz.t223
def y225:=eC Tryz.t225.desc 1 8 Tryz.t225
def y227:=eC Tryz.t227.desc 2 16 Tryz.t227
def y228:=eC Tryz.t227.desc 2 16 Tryz.t228
def y236:=eC Tryz.t236.desc 4 64 Tryz.t236
def y237:=eC Tryz.t236.desc 4 64 Tryz.t237
def y247:=eC Tryz.t247.desc 2 48 Tryz.t247
def y248:=eC Tryz.t247.desc 2 48 Tryz.t248
def y254:=eC Tryz.t254.desc 1 8 Tryz.t254
def y256:=eC Tryz.t256.desc 1 24 Tryz.t256
def y260:=eC Tryz.t260.desc 3 24 Tryz.t260
def y263:=eC Tryz.t263.desc 24 192 Tryz.t263
def y272:=eC Tryz.t272.desc 1 24 Tryz.t272
def y273:=eC Tryz.t273.desc 4 40 Tryz.t273
def y274:=eC Tryz.t273.desc 4 40 Tryz.t274
def y275:=eC Tryz.t275.desc 0 0 Tryz.t275
def y276:=eC Tryz.t276.desc 0 0 Tryz.t276
def y277:=eC Tryz.t276.desc 0 0 Tryz.t277
def y278:=eC Tryz.t5.desc 1 1 Tryz.t278
def y279:=eC Tryz.t5.desc 1 1 Tryz.t279
def y280:=eC Tryz.t280.desc 1 8 Tryz.t280
def y281:=eC Tryz.t281.desc 1 8 Tryz.t281
def y282:=eC Tryz.t21.desc 1 4 Tryz.t282
def y283:=eC Tryz.t21.desc 1 4 Tryz.t283
def y284:=eC Tryz.t284.desc 11 48 Tryz.t284
def y285:=eC Tryz.t284.desc 11 48 Tryz.t285
def ahF:=eC Tryz.t106.desc 1 8 Tryz.t106
def ahG:=eC Tryz.t107.desc 7 136 Tryz.t107
def ahH:=eC Tryz.t107.desc 7 136 Tryz.t108
def ahI:=eC Tryz.t112.desc 1 8 Tryz.t112
def ahJ:=eC Tryz.t113.desc 1 8 Tryz.t113
def ahK:=eC Tryz.t120.desc 5 32 Tryz.t120
def ahL:=eC Tryz.t124.desc 1 24 Tryz.t124
def ahM:=eC Tryz.t127.desc 1 8 Tryz.t127
def ahN:=eC Tryz.t128.desc 1 24 Tryz.t128
def ahO:=eC Tryz.t129.desc 3 64 Tryz.t129
def ahP:=eC Tryz.t129.desc 3 64 Tryz.t130
def ahQ:=eC Tryz.t131.desc 7 152 Tryz.t131
def ahR:=eC Tryz.t131.desc 7 152 Tryz.t132
def ahS:=eC Tryz.t137.desc 1 8 Tryz.t137
def ahT:=eC Tryz.t138.desc 2 16 Tryz.t138
def ahU:=eC Tryz.t146.desc 1 8 Tryz.t146
def ahV:=eC Tryz.t154.desc 1 8 Tryz.t154
def ahW:=eC Tryz.t156.desc 5 96 Tryz.t156
def ahX:=eC Tryz.t156.desc 5 96 Tryz.t157
def ahY:=eC Tryz.t159.desc 1 8 Tryz.t159
def ahZ:=eC Tryz.t175.desc 4 32 Tryz.t175
def ah_:=eC Tryz.t175.desc 4 32 Tryz.t176
def aia:=eC Tryz.t179.desc 2 16 Tryz.t179
def aib:=eC Tryz.t179.desc 2 16 Tryz.t180
def aic:=eC Tryz.t189.desc 1 24 Tryz.t189
def aid:=eC Tryz.t190.desc 1 24 Tryz.t190
def aie:=eC Tryz.t191.desc 3 64 Tryz.t191
def aif:=eC Tryz.t191.desc 3 64 Tryz.t192
def aig:=eC Tryz.t196.desc 2 16 Tryz.t196
def aih:=eC Tryz.t196.desc 2 16 Tryz.t197
def aii:=eC Tryz.t198.desc 1 24 Tryz.t198
def aij:=eC Tryz.t202.desc 256 256 Tryz.t202
def aik:=eC Tryz.t203.desc 1 8 Tryz.t203
def ail:=eC Tryz.t205.desc 7 144 Tryz.t205
def aim:=eC Tryz.t205.desc 7 144 Tryz.t206
def ain:=eC Tryz.t207.desc 2 32 Tryz.t207
def aio:=eC Tryz.t207.desc 2 32 Tryz.t208
def aip:=eC Tryz.t212.desc 1 8 Tryz.t212
def aiq:=eC Tryz.t213.desc 1 8 Tryz.t213
def air:=eC Tryz.t216.desc 1 8 Tryz.t216
def ais:=eC Tryz.t227.desc 2 16 Tryz.t227
def ait:=eC Tryz.t227.desc 2 16 Tryz.t228
def aiu:=eC Tryz.t236.desc 4 64 Tryz.t236
def aiv:=eC Tryz.t236.desc 4 64 Tryz.t237
def aiw:=eC Tryz.t247.desc 2 48 Tryz.t247
def aix:=eC Tryz.t247.desc 2 48 Tryz.t248
def aiy:=eC Tryz.t254.desc 1 8 Tryz.t254
def aiz:=eC Tryz.t256.desc 1 24 Tryz.t256
def aiA:=eC Tryz.t260.desc 3 24 Tryz.t260
def aiB:=eC Tryz.t263.desc 24 192 Tryz.t263
def aiC:=eC Tryz.t272.desc 1 24 Tryz.t272
def aiD:=eC Tryz.t273.desc 4 40 Tryz.t273
def aiE:=eC Tryz.t273.desc 4 40 Tryz.t274
def aiF:=eC Tryz.t275.desc 0 0 Tryz.t275
def aiG:=eC Tryz.t276.desc 0 0 Tryz.t276
def aiH:=eC Tryz.t276.desc 0 0 Tryz.t277
def aiI:=eC Tryz.t5.desc 1 1 Tryz.t278
def aiJ:=eC Tryz.t5.desc 1 1 Tryz.t279
def aiK:=eC Tryz.t280.desc 1 8 Tryz.t280
def aiL:=eC Tryz.t281.desc 1 8 Tryz.t281
def aiM:=eC Tryz.t21.desc 1 4 Tryz.t282
def aiN:=eC Tryz.t21.desc 1 4 Tryz.t283
def aiO:=eC Tryz.t284.desc 11 48 Tryz.t284
def aiP:=eC Tryz.t284.desc 11 48 Tryz.t285
noncomputable def tL {a:Type} (T i:Nat) (t:a):Option a:=bif Nat.beq T i then some t else none
noncomputable def tN {c:Type} (T i:Nat) (a b:Option c):Option c:=bif Nat.blt T i then a else b
def xG (T:Nat):Option Ty:=(tN T 112 (tN T 35 (tN T 18 (tN T 10 (tN T 6 (tN T 4 (tN T 3 (tL T 2 y2) (tL T 3 y3)) (tN T 5 (tL T 4 y4) (tL T 5 y5))) (tN T 8 (tN T 7 (tL T 6 y6) (tL T 7 y7)) (tN T 9 (tL T 8 y8) (tL T 9 y9)))) (tN T 14 (tN T 12 (tN T 11 (tL T 10 y10) (tL T 11 y11)) (tN T 13 (tL T 12 y12) (tL T 13 y13))) (tN T 16 (tN T 15 (tL T 14 y14) (tL T 15 y15)) (tN T 17 (tL T 16 y16) (tL T 17 y17))))) (tN T 26 (tN T 22 (tN T 20 (tN T 19 (tL T 18 y18) (tL T 19 y19)) (tN T 21 (tL T 20 y20) (tL T 21 y21))) (tN T 24 (tN T 23 (tL T 22 y22) (tL T 23 y23)) (tN T 25 (tL T 24 y24) (tL T 25 y25)))) (tN T 30 (tN T 28 (tN T 27 (tL T 26 y26) (tL T 27 y27)) (tN T 29 (tL T 28 y28) (tL T 29 y29))) (tN T 32 (tN T 31 (tL T 30 y30) (tL T 31 y31)) (tN T 33 (tL T 32 y32) (tN T 34 (tL T 33 y33) (tL T 34 y34))))))) (tN T 60 (tN T 44 (tN T 40 (tN T 37 (tN T 36 (tL T 35 y35) (tL T 36 y36)) (tN T 39 (tL T 37 y37) (tL T 39 y39))) (tN T 42 (tN T 41 (tL T 40 y40) (tL T 41 y41)) (tN T 43 (tL T 42 y42) (tL T 43 y43)))) (tN T 52 (tN T 47 (tN T 46 (tL T 44 y44) (tL T 46 y46)) (tN T 49 (tL T 47 y47) (tL T 49 y49))) (tN T 56 (tN T 53 (tL T 52 y52) (tL T 53 y53)) (tN T 57 (tL T 56 y56) (tL T 57 y57))))) (tN T 82 (tN T 77 (tN T 72 (tN T 64 (tL T 60 y60) (tL T 64 y64)) (tN T 73 (tL T 72 y72) (tL T 73 y73))) (tN T 80 (tN T 79 (tL T 77 y77) (tL T 79 y79)) (tN T 81 (tL T 80 y80) (tL T 81 y81)))) (tN T 92 (tN T 89 (tN T 86 (tL T 82 y82) (tL T 86 y86)) (tN T 90 (tL T 89 y89) (tL T 90 y90))) (tN T 106 (tN T 95 (tL T 92 y92) (tL T 95 y95)) (tN T 107 (tL T 106 y106) (tN T 108 (tL T 107 y107) (tL T 108 y108)))))))) (tN T 206 (tN T 156 (tN T 131 (tN T 127 (tN T 120 (tN T 113 (tL T 112 y112) (tL T 113 y113)) (tN T 124 (tL T 120 y120) (tL T 124 y124))) (tN T 129 (tN T 128 (tL T 127 y127) (tL T 128 y128)) (tN T 130 (tL T 129 y129) (tL T 130 y130)))) (tN T 146 (tN T 137 (tN T 132 (tL T 131 y131) (tL T 132 y132)) (tN T 138 (tL T 137 y137) (tL T 138 y138))) (tN T 153 (tN T 152 (tL T 146 y146) (tL T 152 y152)) (tN T 154 (tL T 153 y153) (tL T 154 y154))))) (tN T 190 (tN T 176 (tN T 159 (tN T 157 (tL T 156 y156) (tL T 157 y157)) (tN T 175 (tL T 159 y159) (tL T 175 y175))) (tN T 180 (tN T 179 (tL T 176 y176) (tL T 179 y179)) (tN T 189 (tL T 180 y180) (tL T 189 y189)))) (tN T 197 (tN T 192 (tN T 191 (tL T 190 y190) (tL T 191 y191)) (tN T 196 (tL T 192 y192) (tL T 196 y196))) (tN T 202 (tN T 198 (tL T 197 y197) (tL T 198 y198)) (tN T 203 (tL T 202 y202) (tN T 205 (tL T 203 y203) (tL T 205 y205))))))) (tN T 256 (tN T 225 (tN T 213 (tN T 208 (tN T 207 (tL T 206 y206) (tL T 207 y207)) (tN T 212 (tL T 208 y208) (tL T 212 y212))) (tN T 221 (tN T 216 (tL T 213 y213) (tL T 216 y216)) (tN T 223 (tL T 221 y221) (tL T 223 y223)))) (tN T 237 (tN T 228 (tN T 227 (tL T 225 y225) (tL T 227 y227)) (tN T 236 (tL T 228 y228) (tL T 236 y236))) (tN T 248 (tN T 247 (tL T 237 y237) (tL T 247 y247)) (tN T 254 (tL T 248 y248) (tL T 254 y254))))) (tN T 277 (tN T 273 (tN T 263 (tN T 260 (tL T 256 y256) (tL T 260 y260)) (tN T 272 (tL T 263 y263) (tL T 272 y272))) (tN T 275 (tN T 274 (tL T 273 y273) (tL T 274 y274)) (tN T 276 (tL T 275 y275) (tL T 276 y276)))) (tN T 281 (tN T 279 (tN T 278 (tL T 277 y277) (tL T 278 y278)) (tN T 280 (tL T 279 y279) (tL T 280 y280))) (tN T 283 (tN T 282 (tL T 281 y281) (tL T 282 y282)) (tN T 284 (tL T 283 y283) (tN T 285 (tL T 284 y284) (tL T 285 y285)))))))))
theorem kK {T i s b:Nat} {u:TypeDesc} {I:TypeInfo} {d:Ty} (h:Tryz.prog.underlying i=some u) (f:Tryz.prog.types[i]? = some I) (g:I.size=s:=by rfl) (c:I.bytes=b:=by rfl) (j:I.zero=some (zOf I):=by rfl):tL T i (eC u s b I)=some d->tS Tryz.prog T d:=by
 intro e;unfold tL at e;cases a:Nat.beq T i with
 |true=>rw[a]at e;cases e;rw[zA7 a];exact⟨h,I,adD f,g,c,j⟩
 |false=>rw[a]at e;cases e
theorem kL {T i:Nat} {x y:Option Ty} {d:Ty} (a:x=some d->tS Tryz.prog T d) (b:y=some d->tS Tryz.prog T d):tN T i x y=some d->tS Tryz.prog T d:=by
 unfold tN;cases Nat.blt T i
 ·exact b
 ·exact a
theorem Rv {T:Nat} {d:Ty}:xG T=some d->tS Tryz.prog T d:=
 (kL (kL (kL (kL (kL (kL (kL (kK Tryz.underlying2 Tryz.type2) (kK Tryz.underlying3 Tryz.type3)) (kL (kK Tryz.underlying4 Tryz.type4) (kK Tryz.underlying5 Tryz.type5))) (kL (kL (kK Tryz.underlying6 Tryz.type6) (kK Tryz.underlying7 Tryz.type7)) (kL (kK Tryz.underlying8 Tryz.type8) (kK Tryz.underlying9 Tryz.type9)))) (kL (kL (kL (kK Tryz.underlying10 Tryz.type10) (kK Tryz.underlying11 Tryz.type11)) (kL (kK Tryz.underlying12 Tryz.type12) (kK Tryz.underlying13 Tryz.type13))) (kL (kL (kK Tryz.underlying14 Tryz.type14) (kK Tryz.underlying15 Tryz.type15)) (kL (kK Tryz.underlying16 Tryz.type16) (kK Tryz.underlying17 Tryz.type17))))) (kL (kL (kL (kL (kK Tryz.underlying18 Tryz.type18) (kK Tryz.underlying19 Tryz.type19)) (kL (kK Tryz.underlying20 Tryz.type20) (kK Tryz.underlying21 Tryz.type21))) (kL (kL (kK Tryz.underlying22 Tryz.type22) (kK Tryz.underlying23 Tryz.type23)) (kL (kK Tryz.underlying24 Tryz.type24) (kK Tryz.underlying25 Tryz.type25)))) (kL (kL (kL (kK Tryz.underlying26 Tryz.type26) (kK Tryz.underlying27 Tryz.type27)) (kL (kK Tryz.underlying28 Tryz.type28) (kK Tryz.underlying29 Tryz.type29))) (kL (kL (kK Tryz.underlying30 Tryz.type30) (kK Tryz.underlying31 Tryz.type31)) (kL (kK Tryz.underlying32 Tryz.type32) (kL (kK Tryz.underlying33 Tryz.type33) (kK Tryz.underlying34 Tryz.type34))))))) (kL (kL (kL (kL (kL (kK Tryz.underlying35 Tryz.type35) (kK Tryz.underlying36 Tryz.type36)) (kL (kK Tryz.underlying37 Tryz.type37) (kK Tryz.underlying39 Tryz.type39))) (kL (kL (kK Tryz.underlying40 Tryz.type40) (kK Tryz.underlying41 Tryz.type41)) (kL (kK Tryz.underlying42 Tryz.type42) (kK Tryz.underlying43 Tryz.type43)))) (kL (kL (kL (kK Tryz.underlying44 Tryz.type44) (kK Tryz.underlying46 Tryz.type46)) (kL (kK Tryz.underlying47 Tryz.type47) (kK Tryz.underlying49 Tryz.type49))) (kL (kL (kK Tryz.underlying52 Tryz.type52) (kK Tryz.underlying53 Tryz.type53)) (kL (kK Tryz.underlying56 Tryz.type56) (kK Tryz.underlying57 Tryz.type57))))) (kL (kL (kL (kL (kK Tryz.underlying60 Tryz.type60) (kK Tryz.underlying64 Tryz.type64)) (kL (kK Tryz.underlying72 Tryz.type72) (kK Tryz.underlying73 Tryz.type73))) (kL (kL (kK Tryz.underlying77 Tryz.type77) (kK Tryz.underlying79 Tryz.type79)) (kL (kK Tryz.underlying80 Tryz.type80) (kK Tryz.underlying81 Tryz.type81)))) (kL (kL (kL (kK Tryz.underlying82 Tryz.type82) (kK Tryz.underlying86 Tryz.type86)) (kL (kK Tryz.underlying89 Tryz.type89) (kK Tryz.underlying90 Tryz.type90))) (kL (kL (kK Tryz.underlying92 Tryz.type92) (kK Tryz.underlying95 Tryz.type95)) (kL (kK Tryz.underlying106 Tryz.type106) (kL (kK Tryz.underlying107 Tryz.type107) (kK Tryz.underlying108 Tryz.type108)))))))) (kL (kL (kL (kL (kL (kL (kK Tryz.underlying112 Tryz.type112) (kK Tryz.underlying113 Tryz.type113)) (kL (kK Tryz.underlying120 Tryz.type120) (kK Tryz.underlying124 Tryz.type124))) (kL (kL (kK Tryz.underlying127 Tryz.type127) (kK Tryz.underlying128 Tryz.type128)) (kL (kK Tryz.underlying129 Tryz.type129) (kK Tryz.underlying130 Tryz.type130)))) (kL (kL (kL (kK Tryz.underlying131 Tryz.type131) (kK Tryz.underlying132 Tryz.type132)) (kL (kK Tryz.underlying137 Tryz.type137) (kK Tryz.underlying138 Tryz.type138))) (kL (kL (kK Tryz.underlying146 Tryz.type146) (kK Tryz.underlying152 Tryz.type152)) (kL (kK Tryz.underlying153 Tryz.type153) (kK Tryz.underlying154 Tryz.type154))))) (kL (kL (kL (kL (kK Tryz.underlying156 Tryz.type156) (kK Tryz.underlying157 Tryz.type157)) (kL (kK Tryz.underlying159 Tryz.type159) (kK Tryz.underlying175 Tryz.type175))) (kL (kL (kK Tryz.underlying176 Tryz.type176) (kK Tryz.underlying179 Tryz.type179)) (kL (kK Tryz.underlying180 Tryz.type180) (kK Tryz.underlying189 Tryz.type189)))) (kL (kL (kL (kK Tryz.underlying190 Tryz.type190) (kK Tryz.underlying191 Tryz.type191)) (kL (kK Tryz.underlying192 Tryz.type192) (kK Tryz.underlying196 Tryz.type196))) (kL (kL (kK Tryz.underlying197 Tryz.type197) (kK Tryz.underlying198 Tryz.type198)) (kL (kK Tryz.underlying202 Tryz.type202) (kL (kK Tryz.underlying203 Tryz.type203) (kK Tryz.underlying205 Tryz.type205))))))) (kL (kL (kL (kL (kL (kK Tryz.underlying206 Tryz.type206) (kK Tryz.underlying207 Tryz.type207)) (kL (kK Tryz.underlying208 Tryz.type208) (kK Tryz.underlying212 Tryz.type212))) (kL (kL (kK Tryz.underlying213 Tryz.type213) (kK Tryz.underlying216 Tryz.type216)) (kL (kK Tryz.underlying221 Tryz.type221) (kK Tryz.underlying223 Tryz.type223)))) (kL (kL (kL (kK Tryz.underlying225 Tryz.type225) (kK Tryz.underlying227 Tryz.type227)) (kL (kK Tryz.underlying228 Tryz.type228) (kK Tryz.underlying236 Tryz.type236))) (kL (kL (kK Tryz.underlying237 Tryz.type237) (kK Tryz.underlying247 Tryz.type247)) (kL (kK Tryz.underlying248 Tryz.type248) (kK Tryz.underlying254 Tryz.type254))))) (kL (kL (kL (kL (kK Tryz.underlying256 Tryz.type256) (kK Tryz.underlying260 Tryz.type260)) (kL (kK Tryz.underlying263 Tryz.type263) (kK Tryz.underlying272 Tryz.type272))) (kL (kL (kK Tryz.underlying273 Tryz.type273) (kK Tryz.underlying274 Tryz.type274)) (kL (kK Tryz.underlying275 Tryz.type275) (kK Tryz.underlying276 Tryz.type276)))) (kL (kL (kL (kK Tryz.underlying277 Tryz.type277) (kK Tryz.underlying278 Tryz.type278)) (kL (kK Tryz.underlying279 Tryz.type279) (kK Tryz.underlying280 Tryz.type280))) (kL (kL (kK Tryz.underlying281 Tryz.type281) (kK Tryz.underlying282 Tryz.type282)) (kL (kK Tryz.underlying283 Tryz.type283) (kL (kK Tryz.underlying284 Tryz.type284) (kK Tryz.underlying285 Tryz.type285)))))))))

noncomputable instance:d_ Tryz.prog:=⟨xG,Rv⟩
end Go.Sx
namespace Go.Sx
open Go.RowKit
section
variable {P:Program} {ops:Array Oper} {Q:Exit->Act->World->Prop}
def Sc:Exit->Act->World->Prop:=λ_ _ _=>False
theorem Uo:¬LetsOut Sc:=fun⟨_,_,h⟩=>h
theorem LV {o:Oper} {a:Act} {w:World} {K:Act->World->Prop} (h:o.wp P a w K Sc):o.wp P a w K Q:=by
 unfold Oper.wp at *
 generalize (execOp a.eval o).run P w=r at *
 cases r with
 | ok n c =>
  cases n<;>simp only[Oper.upon]at h ⊢ <;> first
   |exact h
   |exact Calls.mono h (λe d b=>by cases e<;>first|exact b|exact absurd b Uo|exact b.elim)
 |halt x c=>cases x<;>simp only[Oper.upon]at h ⊢ <;> first|exact h|exact h.elim
def Wy (a b:Act) (d:Option Tmp):Prop:=∃u c,b=({a with defers:=c}:Act).put d u
theorem Yk {o:Oper} {a:Act} {w:World} {K:Act->World->Prop} (h:o.wp P a w K Sc):o.wp P a w (λj g=>K j g/\Wy a j o.dst) Sc:=by
 unfold Oper.wp at *
 generalize (execOp a.eval o).run P w=r at *
 cases r with
 | ok n g =>
  cases n<;>simp only[Oper.upon]at h ⊢
  case value v=>exact⟨h,v,a.defers,rfl⟩
  case skip=>exact⟨h,undef,a.defers,rfl⟩
  case defer d=>exact⟨h,undef,d::a.defers,rfl⟩
  case enter f args=>
   refine Calls.mono h λe i b=> ?_;cases e with
   |returned v=>exact⟨b,v,a.defers,rfl⟩
   |panicked c=>exact b
   |outgrown=>exact b
  case row row args=>exact Rows.mono h λv i b=>⟨b,v,a.defers,rfl⟩
 |halt x g=>cases x<;>simp only[Oper.upon]at h ⊢ <;> exact h
theorem QJ {o:Oper} {a:Act} {w:World} {K:Act->World->Prop} (h:o.wp P a w K Sc):∃j g,K j g:=by
 unfold Oper.wp at *
 generalize (execOp a.eval o).run P w=r at *
 cases r with
 | ok n g =>
  cases n<;>simp only[Oper.upon]at h
  case value v=>exact⟨_,_,h⟩
  case skip=>exact⟨_,_,h⟩
  case defer d=>exact⟨_,_,h⟩
  case enter f args=>
   obtain⟨e,i,k,b,_⟩:=h [];cases e with
   |returned v=>exact⟨_,_,b⟩
   |panicked c=>exact b.elim
   |outgrown=>exact absurd b Uo
  case row row args=>
   obtain⟨v,i,b,_⟩:=h default [];exact⟨_,_,b⟩
 |halt x g=>cases x<;>simp only[Oper.upon]at h<;>exact h.elim
theorem Us {o:Oper} {a:Act} {w:World} {K:Act->World->Prop} {d:Option Tmp} {v:V0} (s:∀p b,o.op ≠ .select p b) (q:∀t,d=some t->t∉o.looksAt ops) (g:∀t,d=some t->o.dst≠some t)
  (h:o.wp P a w K Sc):o.wp P (a.put d v) w (λm j=>∃l,K l j/\m=l.put d v) Sc:=by
 unfold Oper.wp at *
 rw[execOp_put (ops:=ops) o s a d v q];have y:(a.put d v).defers=a.defers:=by cases d<;>rfl
 generalize (execOp a.eval o).run P w=r at *
 cases r with
 | ok n j =>
  cases n<;>simp only[Oper.upon]at h ⊢
  case value u=>exact⟨_,h,Act.put_comm a v u g⟩
  case skip=>exact⟨_,h,Act.put_comm a v undef g⟩
  case defer e=>exact⟨_,h,by rw[Act.put_defers,Act.put_comm _ v undef g]⟩
  case enter f args=>
   refine Calls.mono h λe k i=> ?_;cases e with
   |returned u=>exact⟨_,i,Act.put_comm a v u g⟩
   |panicked c=>exact i
   |outgrown=>exact i
  case row row args=>exact Rows.mono h λu k i=>⟨_,i,Act.put_comm a v u g⟩
 |halt x j=>cases x<;>simp only[Oper.upon]at h ⊢ <;> exact h
theorem oH {o:Oper} {a:Act} {w:World} {K b:Act->World->Prop} (c:∀a w,K a w->b a w) (h:o.wp P a w K Sc):o.wp P a w b Sc:=Oper.wp_mono c h
def Qb (P:Program) (A:Nat->Nat->Bool) (i:Nat) (o:Oper) (a:Act) (w:World) (H:List (Nat×World)) (v:V0) (B:World->Prop):Prop:=
 B w/\(∀l∈H,A i l.1=false->B l.2)/\∀b,B b->(execOp a.eval o).run P b = .ok (.value v) b
def RW (P:Program) (ops:Array Oper) (Q:Exit->Act->World->Prop) (A:Nat->Nat->Bool) (c:Nat->Bool) (d:Nat):List Nat->Act->World->List (Nat×World)->List (Nat×(World->Prop))->Prop
 | [],a,w,_,_=>Q .normal a w
 | i :: rest, a, w, H, Bs =>
  match ops[i]? with
  |none=>False
  | some o =>
   if Region.wanted o (yielded ops a.tmps)then
    (d<=i/\(o.wp P a w (λf e=>RW P ops Q A c d rest f e H Bs) Q\/o.rnd P a w (λf e=>RW P ops Q A c d rest f e H Bs)))\/
    (i<d/\c i=false/\∃v B,Qb P A i o a w H v B/\RW P ops Q A c d rest (a.put o.dst v) w H ((i,B)::Bs))\/
    (i<d/\c i=true/\o.wp P a w (λf e=>(∀b∈Bs,A i b.1=false->b.2 e)/\RW P ops Q A c d rest f e ((i,w)::H) Bs) Sc)
   else RW P ops Q A c d rest (a.put o.dst undef) w H Bs
variable {A:Nat->Nat->Bool} {loud:Nat->Bool} {k0:Nat}
theorem ZH:∀(L:List Nat) (a:Act) (w:World) (H:List (Nat×World)) (d c:List (Nat×(World->Prop))),(∀b∈c,b∈d)->RW P ops Q A loud k0 L a w H d->RW P ops Q A loud k0 L a w H c:=by
 intro L
 induction L with
 |nil=>intro a w H d c _ h;exact h
 | cons i L ih =>
  intro a w H d c e h;simp only[RW]at h ⊢;cases l:ops[i]? with
  |none=>simp[l]at h
  | some o =>
   simp only[l]at h ⊢;split
   ·rename_i k;rw[if_pos k]at h;rcases h with⟨f,h2⟩|⟨f,h2,v,B,j,m⟩|⟨f,h2,j⟩
    ·refine .inl ⟨f,?_⟩;rcases h2 with h2|h2
     ·exact .inl (Oper.wp_mono (λa w h=>ih a w H d c e h) h2)
     ·exact .inr (Oper.rnd_mono (λa w h=>ih a w H d c e h) h2)
    ·exact .inr (.inl ⟨f,h2,v,B,j,ih _ _ _ _ _ (λb g=>by
      rcases zAm.1 g with rfl|g
      ·exact zAf
      ·exact zAl _ (e b g)) m⟩)
    ·exact .inr (.inr ⟨f,h2,oH (λa w h=>⟨λb g=>h.1 b (e b g),ih a w _ d c e h.2⟩) j⟩)
   ·rename_i k;rw[if_neg k]at h;exact ih _ _ _ _ _ e h
structure Lc (ops:Array Oper) (A:Nat->Nat->Bool) (loud:Nat->Bool) (x i:Nat):Prop where
 na:A i x=false
 nb:A x i=false
 apart:∀ox oi,ops[x]? = some ox->ops[i]? = some oi->ox.apart ops oi=true
 one:loud x=false\/loud i=false
theorem NH {a c:Act} {o:Oper} {d:Option Tmp} (i:∀f b,o.op ≠ .select f b) (h:∀t,d=some t->t∉o.looksAt ops) (g:Wy a c d):execOp c.eval o=execOp a.eval o/\Region.wanted o (yielded ops c.tmps)=Region.wanted o (yielded ops a.tmps):=by
 obtain⟨u,e,rfl⟩:=g;refine⟨(execOp_put (ops:=ops) o i {a with defers:=e} d u h).trans Z,wanted_put o {a with defers:=e} d u h⟩
theorem Qb.of_exec {i:Nat} {o:Oper} {a b:Act} {w:World} {H:List (Nat×World)} {v:V0} {B:World->Prop} (h:Qb P A i o a w H v B) (e:execOp b.eval o=execOp a.eval o):Qb P A i o b w H v B:=by
 obtain⟨c,d,f⟩:=h;exact⟨c,d,λj g=>by rw[e];exact f j g⟩
theorem Hg (t:∀(i:Nat) (o:Oper),ops[i]? = some o->∀cs b,o.op ≠ .select cs b) {i:Nat} {o:Oper} {Y:List Nat} (hi:ops[i]? = some o) (ad:i<k0) (aa:loud i=false):
  ∀(r:List Nat) (a:Act) (w:World) (H:List (Nat×World)) (G:List (Nat×(World->Prop))),(∀x∈r,Lc ops A loud x i/\x<k0)->RW P ops Q A loud k0 (r++i::Y) a w H G->
   (Region.wanted o (yielded ops a.tmps)=false/\RW P ops Q A loud k0 (r++Y) (a.put o.dst undef) w H G)\/
   (Region.wanted o (yielded ops a.tmps)=true/\∃v B,Qb P A i o a w H v B/\RW P ops Q A loud k0 (r++Y) (a.put o.dst v) w H G):=by
 intro r
 induction r with
 | nil =>
  intro a w H G _ h;simp only[zBb,RW,hi]at h;by_cases e:Region.wanted o (yielded ops a.tmps)=true
  ·rw[if_pos e]at h;rcases h with⟨h,_⟩|⟨_,_,v,B,hv,h⟩|⟨_,h,_⟩
   ·omega
   ·exact .inr ⟨e,v,B,hv,ZH _ _ _ _ _ _ (λb hb=>zAl _ hb) h⟩
   ·rw[aa]at h;cases h
  ·rw[if_neg e]at h;exact .inl ⟨by simpa using e,h⟩
 | cons x r ih =>
  intro a w H G hx h;obtain⟨D,q⟩:=hx x zAf;have k:∀y∈r,Lc ops A loud y i/\y<k0:=λy hy=>hx y (zAl _ hy);simp only[List.cons_append,RW]at h ⊢;cases n:ops[x]? with
  |none=>simp[n]at h
  | some ox =>
   simp only[n]at h ⊢;obtain⟨p1,U,W⟩:=Oper.apart_spec (D.apart ox o n hi);have S:=t i o hi;have C:=t x ox n;have q2:∀(d:Tmp),o.dst=some d->ox.dst≠some d:=λd hd O=>U d O hd;have ex:∀(b:Act) u,execOp (b.put o.dst u).eval ox=execOp b.eval ox:=λb u=>execOp_put (ops:=ops) ox C b o.dst u W;have F:∀(b:Act) u,Region.wanted ox (yielded ops (b.put o.dst u).tmps)=Region.wanted ox (yielded ops b.tmps):=λb u=>wanted_put ox b o.dst u W;have ei:∀(b:Act) u,execOp (b.put ox.dst u).eval o=execOp b.eval o:=λb u=>execOp_put (ops:=ops) o S b ox.dst u p1;have X:∀(b:Act) u,Region.wanted o (yielded ops (b.put ox.dst u).tmps)=Region.wanted o (yielded ops b.tmps):=λb u=>wanted_put o b ox.dst u p1;by_cases e:Region.wanted ox (yielded ops a.tmps)=true
   ·rw[if_pos e]at h;rcases h with⟨h,_⟩|⟨_,f,V,Bx,T,h⟩|⟨_,f,h⟩
    ·omega
    ·rcases ih _ w H _ k h with⟨c,z⟩|⟨c,v,B,z,h3⟩
     ·rw[X]at c;refine .inl ⟨c,?_⟩;rw[if_pos (by rw[F];exact e)];exact .inr (.inl ⟨q,f,V,Bx,T.of_exec (ex a undef),by rw[<-Act.put_comm a V undef U];exact z⟩)
     ·rw[X]at c;refine .inr ⟨c,v,B,z.of_exec (ei a V).symm,?_⟩;rw[if_pos (by rw[F];exact e)];exact .inr (.inl ⟨q,f,V,Bx,T.of_exec (ex a v),by rw[<-Act.put_comm a V v U];exact h3⟩)
    ·have h':=Yk h;obtain⟨a1,w1,⟨⟨_,ab⟩,m⟩⟩:=QJ h';have E:=λ{a':Act} (s:Wy a a' ox.dst)=>NH (ops:=ops) S p1 s;rcases ih a1 w1 _ _ k ab with⟨c,_⟩|⟨c,v,B,⟨ac,J,L⟩,_⟩
     ·have j:Region.wanted o (yielded ops a.tmps)=false:=by rw[<-(E m).2];exact c
      refine .inl ⟨j,?_⟩;rw[if_pos (by rw[F];exact e)];refine .inr (.inr ⟨q,f,?_⟩);refine oH ?_ (Us (ops:=ops) (d:=o.dst) (v:=undef) C W q2 h');rintro a2 w2 ⟨a3,⟨⟨O,hr⟩,s⟩,rfl⟩;refine⟨O,?_⟩
      rcases ih a3 w2 _ _ k hr with⟨_,h5⟩|⟨I,_⟩
      ·exact h5
      ·rw[(E s).2,j]at I;cases I
     ·have j:Region.wanted o (yielded ops a.tmps)=true:=by rw[<-(E m).2];exact c
      have N:B w:=J (x,w) zAf D.na;have R:(execOp a.eval o).run P w = .ok (.value v) w:=by rw[<-(E m).1];exact L w N
      refine .inr ⟨j,v,B,⟨N,λl s=>J l (zAl _ s),λw' p=>by rw[<-(E m).1];exact L w' p⟩,?_⟩;rw[if_pos (by rw[F];exact e)];refine .inr (.inr ⟨q,f,?_⟩);refine oH ?_ (Us (ops:=ops) (d:=o.dst) (v:=v) C W q2 h');rintro a2 w2 ⟨a3,⟨⟨O,hr⟩,s⟩,rfl⟩;refine⟨O,?_⟩
      rcases ih a3 w2 _ _ k hr with⟨I,_⟩|⟨_,v',B',⟨_,K,M⟩,h5⟩
      ·rw[(E s).2,j]at I;cases I
      ·have g:=M w (K (x,w) zAf D.na);rw[(E s).1,R]at g;cases g;exact h5
   ·rw[if_neg e]at h;have p:Region.wanted ox (yielded ops a.tmps)=false:=by simpa using e
    rcases ih _ w H _ k h with⟨c,z⟩|⟨c,v,B,z,h3⟩
    ·rw[X]at c;refine .inl ⟨c,?_⟩;rw[if_neg (by rw[F,p];simp),<-Act.put_comm a undef undef U];exact z
    ·rw[X]at c;refine .inr ⟨c,v,B,z.of_exec (ei a undef).symm,?_⟩;rw[if_neg (by rw[F,p];simp),<-Act.put_comm a undef v U];exact h3
theorem Ic (t:∀(i:Nat) (o:Oper),ops[i]? = some o->∀cs b,o.op ≠ .select cs b) {i:Nat} {o:Oper} {U:List Nat} (Y:ops[i]? = some o) (ac:i<k0) (K:loud i=true):
  ∀(q:List Nat) (a:Act) (w:World) (H:List (Nat×World)) (G:List (Nat×(World->Prop))),(∀x∈q,Lc ops A loud x i/\x<k0)->RW P ops Q A loud k0 (q++i::U) a w H G->
   (Region.wanted o (yielded ops a.tmps)=false/\RW P ops Q A loud k0 (q++U) (a.put o.dst undef) w H G)\/
   (Region.wanted o (yielded ops a.tmps)=true/\o.wp P a w (λI z=>(∀b∈G,A i b.1=false->b.2 z)/\RW P ops Q A loud k0 (q++U) I z ((i,w)::H) G) Sc):=by
 intro q
 induction q with
 | nil =>
  intro a w H G _ h;simp only[zBb,RW,Y]at h;by_cases j:Region.wanted o (yielded ops a.tmps)=true
  ·rw[if_pos j]at h;rcases h with⟨h,_⟩|⟨_,h,_⟩|⟨_,_,h⟩
   ·omega
   ·rw[K]at h;cases h
   ·exact .inr ⟨j,h⟩
  ·rw[if_neg j]at h;exact .inl ⟨by simpa using j,h⟩
 | cons x q ih =>
  intro a w H G hx h;obtain⟨E,N⟩:=hx x zAf;have O:∀y∈q,Lc ops A loud y i/\y<k0:=λy hy=>hx y (zAl _ hy);have D:loud x=false:=E.one.resolve_right (by rw[K];simp);simp only[List.cons_append,RW]at h ⊢;cases m:ops[x]? with
  |none=>simp[m]at h
  | some ox =>
   simp only[m]at h ⊢;obtain⟨p1,F,p3⟩:=Oper.apart_spec (E.apart ox o m Y);have aa:=t i o Y;have L:=t x ox m;have ex:∀(b:Act) u,execOp (b.put o.dst u).eval ox=execOp b.eval ox:=λb u=>execOp_put (ops:=ops) ox L b o.dst u p3;have wx:∀(b:Act) u,Region.wanted ox (yielded ops (b.put o.dst u).tmps)=Region.wanted ox (yielded ops b.tmps):=λb u=>wanted_put ox b o.dst u p3;have S:∀(b:Act) u,Region.wanted o (yielded ops (b.put ox.dst u).tmps)=Region.wanted o (yielded ops b.tmps):=λb u=>wanted_put o b ox.dst u p1;have lx:=λ{I:Act} (J:Wy a I o.dst)=>NH (ops:=ops) L p3 J;have s:∀(u:V0) (Z:Act->World->Prop),o.wp P (a.put ox.dst u) w Z Sc->o.wp P a w (λI z=>Wy a I o.dst/\Z (I.put ox.dst u) z) Sc:=by
    intro u Z k;unfold Oper.wp at *
    rw[execOp_put (ops:=ops) o aa a ox.dst u p1]at k;generalize (execOp a.eval o).run P w=r at *
    cases r with
    | ok n z =>
     cases n<;>simp only[Oper.upon]at k ⊢
     case value v=>exact⟨⟨v,a.defers,rfl⟩,by rw[<-Act.put_comm a u v F];exact k⟩
     case skip=>exact⟨⟨undef,a.defers,rfl⟩,by rw[<-Act.put_comm a u undef F];exact k⟩
     case defer e=>exact⟨⟨undef,e::a.defers,rfl⟩,by rw[<-Act.put_comm _ u undef F,<-Act.put_defers];exact k⟩
     case enter f args=>
      refine Calls.mono k λe ab g=> ?_;cases e with
      |returned v=>exact⟨⟨v,a.defers,rfl⟩,by rw[<-Act.put_comm a u v F];exact g⟩
      |panicked c=>exact g
      |outgrown=>exact g
     case row row args=>exact Rows.mono k λv ab g=>⟨⟨v,a.defers,rfl⟩,by rw[<-Act.put_comm a u v F];exact g⟩
    |halt y z=>cases y<;>simp only[Oper.upon]at k ⊢ <;> exact k
   by_cases j:Region.wanted ox (yielded ops a.tmps)=true
   ·rw[if_pos j]at h;rcases h with⟨h,_⟩|⟨_,_,R,T,M,h⟩|⟨_,h,_⟩
    ·omega
    ·rcases ih _ w H _ O h with⟨d,B⟩|⟨d,B⟩
     ·rw[S]at d;refine .inl ⟨d,?_⟩;rw[if_pos (by rw[wx];exact j)];exact .inr (.inl ⟨N,D,R,T,M.of_exec (ex a undef),by rw[<-Act.put_comm a R undef F];exact B⟩)
     ·rw[S]at d;refine .inr ⟨d,oH ?_ (s R _ B)⟩;rintro a1 w1 ⟨J,g,hr⟩;refine⟨λb hb=>g b (zAl _ hb),?_⟩
      rw[if_pos (by rw[(lx J).2];exact j)];refine .inr (.inl ⟨N,D,R,T,?_,hr⟩);obtain⟨V,W,X⟩:=M;refine⟨g (x,T) zAf E.na,λl C hA=> ?_,λz p=>by rw[(lx J).1];exact X z p⟩
      rcases zAm.1 C with rfl|C
      ·exact V
      ·exact W l C hA
    ·rw[D]at h;cases h
   ·rw[if_neg j]at h;have p:Region.wanted ox (yielded ops a.tmps)=false:=by simpa using j
    rcases ih _ w H _ O h with⟨d,B⟩|⟨d,B⟩
    ·rw[S]at d;refine .inl ⟨d,?_⟩;rw[if_neg (by rw[wx,p];simp),<-Act.put_comm a undef undef F];exact B
    ·rw[S]at d;refine .inr ⟨d,oH ?_ (s undef _ B)⟩;rintro a1 w1 ⟨J,g,hr⟩;refine⟨g,?_⟩
     rw[if_neg (by rw[(lx J).2,p];simp)];exact hr
end
def v_ (o:Oper):List Nat:=(o.after.toList.filter (Region.binds .any)).map (·.on)
def qG (l:List Oper):List Nat:=l.foldl (λa o=>a++[(v_ o).foldl (λs e=>s ||| 2^e ||| a.getD e 0) 0]) []
def before (m:List Nat) (i j:Nat):Bool:=(m.getD i 0).testBit j
def fS:Op->Bool
 | .move _ | .assign _ | .pick .. | .build .. | .load .. | .binOp .. | .unOp .. | .convert .. | .fieldAddr .. | .field .. | .indexAddr .. | .index .. | .lookup .. | .extract .. | .slice .. | .makeFunc .. | .nilCheck .. => false
 | .call ⟨.builtin .len,_,_⟩ | .call ⟨.builtin .max,_,_⟩ | .call ⟨.builtin .min,_,_⟩ | .call ⟨.builtin .cap,_,_⟩=>false
 |_=>true
def Ei:Op->Bool
 | .select .. => true
 |_=>false
def eK (l:List Oper) (i:Nat):Bool:=((l[i]?).map λo=>fS o.op).getD false
def chk (l:List Oper) (m:List Nat) (b:Nat):Bool:=
  (List.range l.length).all λi=>match l[i]? with
    |none=>false
    | some o =>
      (v_ o).all (λe=>Nat.blt e i&&before m i e&&(List.range i).all (λk=> !before m e k||before m i k)) &&
      (List.range l.length).all (λk=> !before m i k||(Nat.blt k i&&(v_ o).any (λe=>Nat.beq e k||before m e k))) &&
      !Ei o.op &&
      (if Nat.ble b i then(List.range i).all (λx=>before m i x)
       else(List.range i).all (λx=>before m i x||(match l[x]? with|none=>false|some a=>a.apart l.toArray o&&(!fS a.op || !fS o.op))))
structure Chk (l:List Oper) (m:List Nat) (k0:Nat):Prop where
 edge:∀(i:Nat) (o:Oper),l[i]? = some o->∀e∈v_ o,e<i/\before m i e=true
 trans:∀(i:Nat) (o:Oper),l[i]? = some o->∀k,before m i k=true->k<l.length->k<i/\∃e∈v_ o,e=k\/before m e k=true
 sel:∀(i:Nat) (o:Oper),l[i]? = some o->∀cs b,o.op ≠ .select cs b
 tail:∀i x,i<l.length->k0<=i->x<i->before m i x=true
 ind:∀(i x:Nat) (oi ox:Oper),l[i]? = some oi->l[x]? = some ox->i<k0->x<i->before m i x=false->ox.apart l.toArray oi=true/\(fS ox.op=false\/fS oi.op=false)
theorem bK {b:Type} {l:List b} {i:Nat} {x:b} (h:l[i]? = some x):i<l.length:=by
 rcases zAu i l.length with a|a
 ·exact a
 ·rw[zAo a]at h;cases h
theorem Xj {l:List Oper} {m:List Nat} {q:Nat} (h:chk l m q=true):Chk l m q:=by
  have a:∀(i:Nat) (o:Oper),l[i]? = some o->
      ((v_ o).all (λe=>Nat.blt e i&&before m i e&&(List.range i).all (λk=> !before m e k||before m i k))=true)/\
      ((List.range l.length).all (λk=> !before m i k||(Nat.blt k i&&(v_ o).any (λe=>Nat.beq e k||before m e k)))=true)/\Ei o.op=false/\
      ((if Nat.ble q i then(List.range i).all (λx=>before m i x)
       else(List.range i).all (λx=>before m i x||(match l[x]? with|none=>false|some r=>r.apart l.toArray o&&(!fS r.op || !fS o.op))))=true):=by
    intro i o c;have:=zA8.1 h i (zAp.2 (bK c));simp only[c,zA6,Bool.not_eq_true']at this;exact⟨this.1.1.1,this.1.1.2,this.1.2,this.2⟩
  refine⟨?_,?_,?_,?_,?_⟩
  · intro i o c e j;have:=zA8.1 (a i o c).1 e j;simp only[zA6,zAv]at this;exact⟨this.1.1,this.1.2⟩
  · intro i o c k g d;have:=zA8.1 (a i o c).2.1 k (zAp.2 d);simp only[g,Bool.not_true,Bool.false_or,zA6,zAv,List.any_eq_true,zB5]at this;obtain⟨s,e,j,f⟩:=this;refine⟨s,e,j,?_⟩
    rcases f with f|f
    · exact .inl (zA7 f)
    · exact .inr f
  · intro i o c v b e;have:=(a i o c).2.2.1;rw[e]at this;cases this
  · intro i x n g p;obtain⟨o,c⟩:∃o,l[i]? = some o:=⟨_,zA2 n⟩
    have:=(a i o c).2.2.2;rw[if_pos (by simpa using g)]at this;exact zA8.1 this x (zAp.2 p)
  · intro i x u r n p g d t;have:=(a i u n).2.2.2;rw[if_neg (by simpa using g)]at this;have:=zA8.1 this x (zAp.2 d);simp only[t,Bool.false_or,p,zA6,zB5,Bool.not_eq_true']at this;exact this
section
variable {P:Program} {Q:Exit->Act->World->Prop} {l:List Oper} {m:List Nat} {k0:Nat}
theorem RW.any (hc:Chk l m k0):∀(g:Nat) (L:List Nat) (c:Array Bool) (a:Act) (w:World) (H:List (Nat×World)) (Y:List (Nat×(World->Prop))),
  L.length<=g->c.size=l.length->L.Pairwise (· < ·)->(∀i,i∈L↔i<l.length/\c.getD i true=false)->
  (∀j k,c.getD j false=true->before m j k=true->k<l.length->c.getD k false=true)->
  RW P l.toArray Q (before m) (eK l) k0 L a w H Y->wpAny P .any l.toArray Q g c a w:=by
 intro g
 induction g with
 |zero=>
  intro L c a w H Y K W p d R h;have hL:L=[]:=zAn (by omega);subst hL;refine⟨?_,h⟩
  rw[List.eq_nil_iff_forall_not_mem];intro i hi;obtain⟨h0,o,A,_⟩:=mem_ready.1 hi;have:i<l.length:=by have:=(zAj.1 A).1;simpa using this
  have:=(d i).2 ⟨this,h0⟩;simp at this
 | succ g ih =>
  intro L c a w H Y K W p d R h;refine⟨λF=> ?_,λi hi=> ?_⟩
  ·cases L with
   |nil=>exact h
   | cons i L =>
    exfalso;obtain⟨q,h0⟩:=(d i).1 zAf;obtain⟨o,A⟩:∃o,l[i]? = some o:=⟨_,zA2 q⟩
    have:i∈Region.ready .any l.toArray c:=by
     refine mem_ready.2 ⟨h0,o,by simpa using A,λe he O=> ?_⟩;have aj:e.on∈v_ o:=zB9.2 ⟨e,List.mem_filter.2 ⟨by simpa using he,O⟩,rfl⟩;have ap:=(hc.edge i o A e.on aj).1;cases hg:c.getD e.on true with
     |false=>
      have hm:=(d e.on).2 ⟨by omega,hg⟩;rcases zAm.1 hm with e1|e1
      ·omega
      ·have:=(List.pairwise_cons.1 p).1 _ e1;omega
     |true=>
      have:e.on<c.size:=by omega
      simp[this]at hg ⊢;exact hg
    rw[F]at this;simp at this
  ·obtain⟨h0,o,ah,S⟩:=mem_ready.1 hi;have A:l[i]? = some o:=by simpa using ah
   have q:i<l.length:=bK A;have ak:i∈L:=(d i).2 ⟨q,h0⟩;obtain⟨u,L2,rfl⟩:=List.append_of_mem ak;have hs:=List.pairwise_append.1 p;have D:∀x∈u,x<i:=λx t=>hs.2.2 x t i zAf;have ab:∀x∈L2,i<x:=λx t=>(List.pairwise_cons.1 hs.2.1).1 x t;have I:∀k,before m i k=true->k<l.length->c.getD k false=true:=by
    intro k X ag;obtain⟨_,e,he,T⟩:=hc.trans i o A k X ag;obtain⟨ed,ai,rfl⟩:=zB9.1 he;obtain⟨ac,ad⟩:=List.mem_filter.1 ai;have hl:=S ed (by simpa using ac) ad;rcases T with rfl|T
    ·exact hl
    ·exact R _ _ hl T ag
   have V:∀x∈u,before m i x=false:=by
    intro x t;cases O:before m i x with
    |false=>rfl
    |true=>
     have G:=((d x).1 (by simp[t]))
     have:=I x O G.1;have am:x<c.size:=by omega
     simp[am]at this G;rw[this]at G;simp at G
   -- the rest
   have next:∀z C H' N,RW P l.toArray Q (before m) (eK l) k0 (u++L2) z C H' N->wpAny P .any l.toArray Q g (c.setIfInBounds i true) z C:=by
    intro z C H' N F;refine ih (u++L2) _ z C H' N ?_ (by simp[W]) ?_ ?_ ?_ F
    ·simp at K ⊢;omega
    ·exact List.pairwise_append.2 ⟨hs.1,(List.pairwise_cons.1 hs.2.1).2,λx t y hy=>by have:=D x t;have:=ab y hy;omega⟩
    ·intro j;by_cases e:i=j
     ·subst e;constructor
      ·intro f;rcases zB0.1 f with f|f
       ·have:=D i f;omega
       ·have:=ab i f;omega
      ·rintro⟨_,f⟩;simp[W,q]at f
     ·rw[getD_set_ne true e];have:=d j;simp only[zB0,zAm]at this ⊢;constructor
      ·intro f;exact this.1 (by rcases f with f|f;exact .inl f;exact .inr (.inr f))
      ·intro f;rcases this.2 f with f|rfl|f
       ·exact .inl f
       ·exact absurd Z e
       ·exact .inr f
    ·intro j k f af X;by_cases e:i=j
     ·subst e;exact getD_set_true (I k af X)
     ·rw[getD_set_ne false e]at f;exact getD_set_true (R j k f af X)
   have s:l.toArray[i]? = some o:=ah;by_cases X:k0<=i
   ·have aa:u=[]:=by
     cases u with
     |nil=>rfl
     |cons x u=>
      have n:=V x zAf;have r:=hc.tail i x q X (D x zAf);rw[n]at r;cases r
    subst aa;simp only[zBb,RW,s]at h;unfold wpOp;simp only[s];split
    ·rename_i hw;rw[if_pos hw]at h;rcases h with⟨_,h|h⟩|⟨h,_⟩|⟨h,_⟩
     ·exact .inl (Oper.wp_mono (λz C F=>next z C _ _ F) h)
     ·exact .inr (Oper.rnd_mono (λz C F=>next z C _ _ F) h)
     ·omega
     ·omega
    ·rename_i hw;rw[if_neg hw]at h;exact next _ _ _ _ h
   ·have U:i<k0:=by omega
    have J:∀x∈u,Lc l.toArray (before m) (eK l) x i/\x<k0:=by
     intro x t;have al:=D x t;obtain⟨ox,E⟩:∃ox,l[x]? = some ox:=⟨_,zA2 (by omega)⟩
     have ae:=hc.ind i x o ox A E U al (V x t);refine⟨⟨V x t,?_,?_,?_⟩,by omega⟩
     ·cases O:before m x i with
      |false=>rfl
      |true=>have:=(hc.trans x ox E i O q).1;omega
     ·intro ao an n r;have e1:ox=ao:=by simpa [E]using n
      have e2:o=an:=by simpa [A]using r
      rw[<-e1,<-e2];exact ae.1
     ·rcases ae.2 with n|n
      ·exact .inl (by simp[eK,E,n])
      ·exact .inr (by simp[eK,A,n])
    have M:∀(i:Nat) (o:Oper),l.toArray[i]? = some o->∀cs b,o.op ≠ .select cs b:=λi o h=>hc.sel i o (by simpa using h);unfold wpOp;simp only[s];cases hl:eK l i with
    | false =>
     rcases Hg M s U hl u a w H Y J h with⟨n,r⟩|⟨n,v,B,⟨O,_,F⟩,r⟩
     ·rw[n];exact next _ _ _ _ r
     ·rw[n];exact .inl (by simp only[Oper.wp,F w O,Oper.upon];exact next _ _ _ _ r)
    | true =>
     rcases Ic M s U hl u a w H Y J h with⟨n,r⟩|⟨n,r⟩
     ·rw[n];exact next _ _ _ _ r
     ·rw[n];exact .inl (LV (oH (λz C hh=>next z C _ _ hh.2) r))
theorem Mw {g:Option Nat} {id:Nat} {a:Act} {w:World} (e:l.all kB=true) (f:P.follows .mixedOrders=true) (d:chk l m k0=true)
  (h:RW P l.toArray Q (before m) (eK l) k0 (List.range l.length) a w.drew [] []):(Code.region id l.toArray true).wpr g P Q a w:=by
 refine Gs e f ?_;refine RW.any (Xj d) _ (List.range l.length) _ a _ [] [] (by simp) (by simp) List.pairwise_lt_range ?_ ?_ h
 ·intro i;simp only[zAp];constructor
  ·intro c;exact⟨c,by simp[c]⟩
  ·exact λh=>h.1
 ·intro j k b;simp[Array.getElem?_replicate]at b;split at b<;>simp at b
def acw (c:yO):List (Nat×List bH×List bH)->List (Nat×World)->Prop
 | [],[]=>True
 |h::H,x::X=>h.1=x.1/\St c h.2.1 h.2.2 x.2/\acw c H X
 |_,_=>False
def RU (c:yO):List (Nat×List bH×List bH)->List (Nat×(World->Prop))->Prop
 | [],[]=>True
 |b::B,x::X=>x=(b.1,St c b.2.1 b.2.2)/\RU c B X
 |_,_=>False
def JR (c:yO) (n:Sz) (d:Fr) (M L:List bH) (H b:List (Nat×List bH×List bH)) (G:Act->World->List (Nat×World)->List (Nat×(World->Prop))->Prop):Prop:=
 ∀a w X Y,I_ n d a->St c M L w->acw c H X->RU c b Y->G a w X Y
variable {c:yO} {n:Sz} {σ:Fr} {M L Mx Lx:List bH} {H Bs:List (Nat×List bH×List bH)}
theorem JR.start {f:Option Nat} {id:Nat} (m:List Nat) (k0:Nat) (e:P.follows .mixedOrders=true) (b:chk l m k0=true)
  (h:JR c n σ M L [] [] (RW P l.toArray Q (before m) (eK l) k0 (List.range l.length))) (d:l.all kB=true:=by rfl):J c n σ M L ((Code.region id l.toArray true).wpr f P Q):=λa w s t=>
 Mw d e b (h a w.drew [] [] s (t.ext ((Below.refl _ _).drew)) trivial trivial)
structure Je (M L Mx Lx:List bH):Prop where
 hM:aZ M Mx
 hL:iC L Lx
theorem Je.st {M L Mx Lx:List bH} (h:Je M L Mx Lx) {w:World} (t:St c M L w):St c Mx Lx w:=t.weak h.hM h.hL
def aJ (A:Nat->Bool) (Mx Lx:List bH):List (Nat×List bH×List bH)->Prop
 | []=>True
 |h::H=>(A h.1=true\/Je h.2.1 h.2.2 Mx Lx)/\aJ A Mx Lx H
def pX (A:Nat->Bool) (M L:List bH):List (Nat×List bH×List bH)->Prop
 | []=>True
 |b::B=>(A b.1=true\/Je M L b.2.1 b.2.2)/\pX A M L B
theorem aJ.use {A:Nat->Bool} {Mx Lx:List bH}:∀{H:List (Nat×List bH×List bH)} {X:List (Nat×World)},aJ A Mx Lx H->acw c H X->∀x∈X,A x.1=false->St c Mx Lx x.2
 | [],[],_,_,x,a,_=>by simp at a
 | [],_::_,_,h,_,_,_=>h.elim
 |_::_,[],_,h,_,_,_=>h.elim
 | h :: H, y :: X, ho, hi, x, a, hA => by
  rcases zAm.1 a with rfl|a
  ·rcases ho.1 with b|b
   ·rw[hi.1,hA]at b;cases b
   ·exact b.st hi.2.1
  ·exact aJ.use ho.2 hi.2.2 x a hA
theorem pX.use {A:Nat->Bool} {M L:List bH} {w:World} (t:St c M L w):∀{B:List (Nat×List bH×List bH)} {X:List (Nat×(World->Prop))},pX A M L B->RU c B X->∀x∈X,A x.1=false->x.2 w
 | [],[],_,_,x,a,_=>by simp at a
 | [],_::_,_,h,_,_,_=>h.elim
 |_::_,[],_,h,_,_,_=>h.elim
 | b :: B, y :: X, ho, hi, x, a, hA => by
  rcases zAm.1 a with rfl|a
  ·rcases ho.1 with d|d
   ·rw[hi.1]at hA;rw[d]at hA;cases hA
   ·rw[hi.1];exact d.st t
  ·exact pX.use t ho.2 hi.2 x a hA
theorem JR.quiet {i:Nat} {b:List Nat} {d:Nat} {g:Op} {k:TypeId} {f:String} {e:Array Edge} {v:V0} (Mx Lx:List bH)
  (p:l[i]? = some ⟨some d,g,k,f,e,none⟩) (y:Nat.blt i k0=true) (z:fS g=false) (A:Y P c n σ Mx Lx ⟨some d,g,k,f,e,none⟩ v) (r:Je M L Mx Lx) (q:aJ (before m i) Mx Lx H) (x:Nat.blt d n.sz=true)
  (h:JR c n ((d,v)::σ) M L H ((i,Mx,Lx)::Bs) (RW P l.toArray Q (before m) (eK l) k0 b)):JR c n σ M L H Bs (RW P l.toArray Q (before m) (eK l) k0 (i::b)):=λa w X Y s t o u=>by
 have j:l.toArray[i]? = some ⟨some d,g,k,f,e,none⟩:=by simpa using p
 simp only[RW,j];rw[if_pos (by simp[Region.wanted])];refine .inr (.inl ⟨by simpa [zAv]using y,by simp[eK,p,z],v,St c Mx Lx,⟨r.st t,q.use o,λC B=>A a C s B⟩,h _ w X _ (s.put d v x) t o ⟨rfl,u⟩⟩)
theorem UZ {i:Nat} {e:List Nat} {d:Nat} {k:Op} {p:TypeId} {g:String} {f:Array Edge} {j:Nat} {b:Bool} {v:V0} (Mx Lx:List bH)
  (r:l[i]? = some ⟨some d,k,p,g,f,some (j,b)⟩) (B:Nat.blt i k0=true) (C:fS k=false) (A:gv l.toArray σ j=some b) (D:Y P c n σ Mx Lx ⟨some d,k,p,g,f,some (j,b)⟩ v) (x:Je M L Mx Lx) (u:aJ (before m i) Mx Lx H) (z:Nat.blt d n.sz=true)
  (h:JR c n ((d,v)::σ) M L H ((i,Mx,Lx)::Bs) (RW P l.toArray Q (before m) (eK l) k0 e)):JR c n σ M L H Bs (RW P l.toArray Q (before m) (eK l) k0 (i::e)):=λa w X Y s t q y=>by
 have o:l.toArray[i]? = some ⟨some d,k,p,g,f,some (j,b)⟩:=by simpa using r
 simp only[RW,o];rw[if_pos (by simp[Region.wanted,Be s A])];refine .inr (.inl ⟨by simpa [zAv]using B,by simp[eK,r,C],v,St c Mx Lx,⟨x.st t,u.use q,λF E=>D a F s E⟩,h _ w X _ (s.put d v z) t q ⟨rfl,y⟩⟩)
theorem bA {i:Nat} {e:List Nat} {d:Nat} {p:Op} {q:TypeId} {g:String} {f:Array Edge} {j:Nat} {b o:Bool}
  (z:l[i]? = some ⟨some d,p,q,g,f,some (j,b)⟩) (y:gv l.toArray σ j=some o) (v:(o==b)=false) (x:Nat.blt d n.sz=true)
  (h:JR c n ((d,undef)::σ) M L H Bs (RW P l.toArray Q (before m) (eK l) k0 e)):JR c n σ M L H Bs (RW P l.toArray Q (before m) (eK l) k0 (i::e)):=λa w X Y s t r u=>by
 have k:l.toArray[i]? = some ⟨some d,p,q,g,f,some (j,b)⟩:=by simpa using z
 simp only[RW,k];rw[if_neg (by simp[Region.wanted,Be s y,v])];exact h _ w X Y (s.put d undef x) t r u
theorem JR.guard {i f:Nat} {rest:List Nat} {d:Option Tmp} {u:Op} {v:TypeId} {o:String} {g:Array Edge} {j:Nat} {e b:Bool}
  (_:l[i]? = some ⟨d,u,v,o,g,some (j,b)⟩) (_:(l[j]?).bind (·.dst)=some f) (p:lk σ f=some (.bool e))
  (r:e=true->JR c n ((f,.bool true)::σ) M L H Bs (RW P l.toArray Q (before m) (eK l) k0 (i::rest)))
  (q:e=false->JR c n ((f,.bool false)::σ) M L H Bs (RW P l.toArray Q (before m) (eK l) k0 (i::rest))):JR c n σ M L H Bs (RW P l.toArray Q (before m) (eK l) k0 (i::rest)):=by
 cases e
 ·exact λa w X Y s t h k=>q Z a w X Y (s.over (s.slot _ _ p)) t h k
 ·exact λa w X Y s t h k=>r Z a w X Y (s.over (s.slot _ _ p)) t h k
theorem AY {i e:Nat} {a:List Nat} {d:Option Tmp} {t:Op} {u:TypeId} {g:String} {f:Array Edge} {j:Nat} {p:Prop} {_:Decidable p} {b:Bool}
  (q:l[i]? = some ⟨d,t,u,g,f,some (j,b)⟩) (r:(l[j]?).bind (·.dst)=some e) (o:lk σ e=some (.bool (decide p)))
  (s:p->JR c n ((e,.bool true)::σ) M L H Bs (RW P l.toArray Q (before m) (eK l) k0 (i::a)))
  (k:¬p->JR c n ((e,.bool false)::σ) M L H Bs (RW P l.toArray Q (before m) (eK l) k0 (i::a))):JR c n σ M L H Bs (RW P l.toArray Q (before m) (eK l) k0 (i::a)):=
 JR.guard q r o (λh=>s (zB2 h)) (λh=>k (of_decide_eq_false h))
def aP (P:Program) (c:yO) (n:Sz) (σ:Fr) (M L:List bH) (o:Oper) {A:Type} (b:A->V0) (M' L':A->List bH):Prop:=
 ∀a w,I_ n σ a->St c M L w->o.wp P a w (λd e=>∃x:A,d=a.put o.dst (b x)/\St c (M' x) (L' x) e) Sc
theorem aK {A:Type} {i:A->V0} {M' L':A->List bH} {f:Array Oper} {b:List Oper} {d:Nat} {j:Op} {k:TypeId} {g:String} {e:Array Edge}
  (q:aP P c n σ M L ⟨some d,j,k,g,e,none⟩ i M' L') (o:Nat.blt d n.sz=true) (h:∀x,J c n ((d,i x)::σ) (M' x) (L' x) (wpList P f Q b)):
  J c n σ M L (wpList P f Q (⟨some d,j,k,g,e,none⟩::b)):=λa w s t=>
 mS Z (LV (oH (λv u ⟨x,p,r⟩=>by subst p;exact h x _ u (s.put d _ o) r) (q a w s t)))
theorem qH {A:Type} {k:A->V0} {p o:A->List bH} {f:Array Oper} {e:List Oper} {d:Nat} {q:Op} {r:TypeId} {i:String} {g:Array Edge} {j:Nat} {b:Bool}
  (y:gv f σ j=some b) (z:aP P c n σ M L ⟨some d,q,r,i,g,some (j,b)⟩ k p o) (u:Nat.blt d n.sz=true) (h:∀x,J c n ((d,k x)::σ) (p x) (o x) (wpList P f Q e)):
  J c n σ M L (wpList P f Q (⟨some d,q,r,i,g,some (j,b)⟩::e)):=λa w s t=>
 mS (by simp[Region.wanted,Be s y]) (LV (oH (λD C ⟨x,v,B⟩=>by subst v;exact h x _ C (s.put d _ u) B) (z a w s t)))
theorem zBi {A:Type} {g:A->V0} {o k:A->List bH} {i:Nat} {b:List Nat} {d:Nat} {j:Op} {q:TypeId} {f:String} {e:Array Edge}
  (u:l[i]? = some ⟨some d,j,q,f,e,none⟩) (C:Nat.blt i k0=true) (D:fS j=true) (E:aP P c n σ M L ⟨some d,j,q,f,e,none⟩ g o k) (B:Nat.blt d n.sz=true)
  (y:∀x,pX (before m i) (o x) (k x) Bs) (h:∀x,JR c n ((d,g x)::σ) (o x) (k x) ((i,M,L)::H) Bs (RW P l.toArray Q (before m) (eK l) k0 b)):
  JR c n σ M L H Bs (RW P l.toArray Q (before m) (eK l) k0 (i::b)):=λa w X Y s t z r=>by
 have p:l.toArray[i]? = some ⟨some d,j,q,f,e,none⟩:=by simpa using u
 simp only[RW,p];rw[if_pos (by simp[Region.wanted])];refine .inr (.inr ⟨by simpa [zAv]using C,by simp[eK,u,D],oH ?_ (E a w s t)⟩);rintro G F ⟨x,rfl,v⟩;exact⟨(y x).use v r,h x _ F _ Y (s.put d _ B) v ⟨rfl,t,z⟩ r⟩
theorem Wu {A:Type} {k:A->V0} {q p:A->List bH} {i:Nat} {e:List Nat} {d:Nat} {o:Op} {u:TypeId} {g:String} {f:Array Edge} {j:Nat} {b:Bool}
  (y:l[i]? = some ⟨some d,o,u,g,f,some (j,b)⟩) (F:Nat.blt i k0=true) (G:fS o=true) (E:gv l.toArray σ j=some b) (I:aP P c n σ M L ⟨some d,o,u,g,f,some (j,b)⟩ k q p) (D:Nat.blt d n.sz=true)
  (B:∀x,pX (before m i) (q x) (p x) Bs) (h:∀x,JR c n ((d,k x)::σ) (q x) (p x) ((i,M,L)::H) Bs (RW P l.toArray Q (before m) (eK l) k0 e)):
  JR c n σ M L H Bs (RW P l.toArray Q (before m) (eK l) k0 (i::e)):=λa w X Y s t C v=>by
 have r:l.toArray[i]? = some ⟨some d,o,u,g,f,some (j,b)⟩:=by simpa using y
 simp only[RW,r];rw[if_pos (by simp[Region.wanted,Be s E])];refine .inr (.inr ⟨by simpa [zAv]using F,by simp[eK,y,G],oH ?_ (I a w s t)⟩);rintro K J ⟨x,rfl,z⟩;exact⟨(B x).use z v,h x _ J _ Y (s.put d _ D) z ⟨rfl,t,C⟩ v⟩
theorem RW.tail {X:List (Nat×World)} {Y:List (Nat×(World->Prop))}:∀(r:List Nat) (b:List Oper),(∀i∈r,k0<=i)->r.map (l[·]?)=b.map some->∀a w,wpList P l.toArray Q b a w->RW P l.toArray Q (before m) (eK l) k0 r a w X Y
 | [],[],_,_,_,_,h=>h
 | [],_::_,_,e,_,_,_=>by simp at e
 |_::_,[],_,e,_,_,_=>by simp at e
 | i :: r, o :: b, hk, e, a, w, h => by
  simp only[zBf,List.cons.injEq]at e;have d:l.toArray[i]? = some o:=by simpa using e.1
  have g:=λa w=>RW.tail (X:=X) (Y:=Y) r b (λi j=>hk i (zAl _ j)) e.2 a w;simp only[RW,d];unfold wpList at h;split
  ·rename_i f;rw[if_pos f]at h;refine .inl ⟨hk i zAf,?_⟩;rcases h with h|h
   ·exact .inl (Oper.wp_mono (λa w h=>g a w h) h)
   ·exact .inr (Oper.rnd_mono (λa w h=>g a w h) h)
  ·rename_i f;rw[if_neg f]at h;exact g _ _ h
theorem JR.tail {r:List Nat} {b:List Oper} (f:r.all (Nat.ble k0)=true) (d:r.map (l[·]?)=b.map some) (h:J c n σ M L (wpList P l.toArray Q b)):JR c n σ M L H Bs (RW P l.toArray Q (before m) (eK l) k0 r):=
 λa w _ _ s t _ _=>RW.tail r b (λi e=>by simpa using zA8.1 f i e) d a w (h a w s t)
end
structure bM (α:Type) where
 sz:Nat
 pos:0<sz
 enc:α->List V0
 len:∀x,(enc x).length=sz
def bM.int (k:IntKind):bM Int:=⟨1,Nat.one_pos,λx=>[.int k x],λ_=>rfl⟩
def bM.bool:bM Bool:=⟨1,Nat.one_pos,λx=>[.bool x],λ_=>rfl⟩
def bM.raw:bM V0:=⟨1,Nat.one_pos,λx=>[x],λ_=>rfl⟩
def cellsOf {a:Type} (e:bM a) (b:List a):List V0:=b.flatMap e.enc
theorem fM {b:Type} (e:bM b) (a:List b):(cellsOf e a).length=a.length*e.sz:=by
 induction a with
 |nil=>simp[cellsOf]
 |cons x a c=>simp only[cellsOf,List.flatMap_cons,zA4,e.len,zA9,zAy]at *;omega
theorem Dm {c:Type} (e:bM c) (a:List c):∀(i:Nat) (x:c),a[i]? = some x->∀j u,(e.enc x)[j]? = some u->(cellsOf e a)[i*e.sz+j]? = some u:=by
 induction a with
 |nil=>intro i x h;simp at h
 | cons y a ih =>
  intro i x h j u b;simp only[cellsOf,List.flatMap_cons];cases i with
  |zero=>
   simp at h;subst h;rw[zAc (by have:=bK b;omega)];simpa using b
  |succ i=>
   simp only[List.getElem?_cons_succ]at h;rw[zAb (by rw[e.len,zAy];omega),e.len];have:(i+1)*e.sz+j - e.sz=i*e.sz+j:=by rw[zAy];omega
   rw[this];exact ih i x h j u b
theorem mK {c:Type} (e:bM c) (a b:List c):cellsOf e (a++b)=cellsOf e a++cellsOf e b:=by simp[cellsOf]
def AV {g:Type} (e:bM g) (w:World) (F:Nat->Prop) (v:V0) (f:List g):Prop:=
 f.length<=140737488355328/\(cellsOf e f).all one=true/\((v = .slice none 0 0/\f=[])\/∃b d a T,∃c:Array V0,v = .slice (some ⟨b,d,none⟩) f.length a/\F b/\w.heap[b]? = some (.cells c T (0,0))/\
  f.length<=a/\d+a*e.sz<=c.size/\(c.toList.drop d).take (f.length*e.sz)=cellsOf e f)
def Ar {g:Type} (e:bM g) (v:V0) (q:List g):bH where
 p w F:=AV e w F v q
 mono:=fun⟨i,j,h⟩ n=>⟨i,j,by
  rcases h with h|⟨b,d,a,T,c,o,m,f,r⟩
  ·exact .inl h
  ·obtain⟨k,l⟩:=n b m (zAj.1 f).1;exact .inr ⟨b,d,a,T,c,o,k,by rw[l];exact f,r⟩⟩
section
variable {α:Type} {e:bM α} {w:World} {F:Nat->Prop} {v:V0} {xs:List α}
theorem AV.cell (h:AV e w F v xs) {i:Nat} {x:α} (c:xs[i]? = some x) {j:Nat} {u:V0} (l:(e.enc x)[j]? = some u):w.cell? (Kr v (i*e.sz+j))=some u:=by
 obtain⟨_,_,h⟩:=h;rcases h with⟨_,h⟩|⟨b,n,d,T,f,m,_,g,p,o,k⟩
 ·subst h;simp at c
 ·have a:=Dm e xs i x c j u l;rw[<-k,zAs]at a;split at a
  ·rw[zAt]at a;subst m;simp only[Kr,fF];simp[World.cell?,g];simpa using a
  ·cases a
theorem PR (h:AV e w F v xs) (g:xs≠[]) (o:Nat):w.frozen? (Kr v o)=false:=by
 obtain⟨_,_,h⟩:=h;rcases h with⟨_,h⟩|⟨b,i,a,T,c,f,_,d,_⟩
 ·exact absurd h g
 ·subst f;simp only[Kr,fF];simp[World.frozen?,d]
end
section
variable {P:Program} {rd:Option Nat} {c:yO} {n:Sz} {σ:Fr} {M L:List bH} {Q:Exit->Act->World->Prop} {ops:Array Oper} {rest:List Oper}
variable {d:Option Tmp} {D:Nat} {ty:TypeId} {pos:String} {aft:Array Edge} {g:Option (Nat×Bool)}
variable {α:Type} {e:bM α}
theorem tZ [d_ P] (j:Nat) {T E:TypeId} {G H m I:Nat} {z J:V0} {q:TypeDesc} {x y:Operand} {v:V0} {i:Int} {o:List α} (C:ev σ x=some v) (F:ev σ y=some (.int .i64 i)) (B:M[j]? = some (Ar e v o))
  (A:d_.tab P T=some ⟨.slice E,G,H,z⟩) (u:d_.tab P E=some ⟨q,m,I,J⟩) (r:0<=i) (l:i<o.length):
  Y P c n σ M L ⟨d,.indexAddr T x y,ty,pos,aft,g⟩ (EL v (i.toNat*m)):=λa w s t=>by
 obtain⟨S,_,_,h⟩:=t.res B;rcases h with⟨rfl,rfl⟩|⟨b,k,f,K,p,rfl,_⟩
 ·simp at l;omega
 ·simp[execOp,s.eval C,s.eval F,JC w (d_.ok A) Z (d_.ok u) b k _ f i r l]
theorem ZI [d_ P] [Inhabited α] (j:Nat) {T:TypeId} {C q o:Nat} {z:V0} {f:TypeDesc} {x:Operand} {v:V0} {i:Int} {b:List α} {u:V0} (B:ev σ x=some (EL v (i.toNat*q+o))) (r:M[j]? = some (Ar e v b))
  (m:d_.tab P T=some ⟨f,1,C,z⟩) (p:Bb f=false) (y:e.sz=q) (A:(e.enc (at' b i))[o]? = some u) (k:0<=i) (l:i<b.length):
  Y P c n σ M L ⟨d,.load T x,ty,pos,aft,g⟩ u:=λa w s t=>by
 obtain⟨S,h⟩:=t.res r;have:=AV.cell h (cX k l) A;rw[y]at this;simp[execOp,s.eval B,EL,CL (d_.ok m) p this]
theorem WG [d_ P] [Inhabited α] (j:Nat) {T:TypeId} {t:Nat} {z:V0} {b:TypeDesc} {x:Operand} {v:V0} {i:Int} {a:List α} {u:V0} (s:ev σ x=some (EL v (i.toNat*1))) (m:M[j]? = some (Ar e v a))
  (k:d_.tab P T=some ⟨b,1,t,z⟩) (l:Bb b=false) (p:e.sz=1) (r:(e.enc (at' a i))[0]? = some u) (f:0<=i) (h:i<a.length):
  Y P c n σ M L ⟨d,.load T x,ty,pos,aft,g⟩ u:=ZI j (q:=1) (o:=0) s m k l p r f h
theorem yX {a:List α} (f:e.sz=1) {i:Nat} {y:α} {u:V0} (h:e.enc y=[u]):cellsOf e (a.set i y)=(cellsOf e a).set i u:=by
 induction a generalizing i with
 |nil=>simp[cellsOf]
 | cons x a ih =>
  obtain⟨p,b⟩:∃p,e.enc x=[p]:=by
   have:=e.len x;rw[f]at this;exact List.length_eq_one_iff.1 this
  cases i with
  |zero=>simp[cellsOf,b,h]
  |succ i=>simp only[List.set_cons_succ,cellsOf,List.flatMap_cons,b,List.singleton_append]at *;rw[ih]
theorem take_set {a:Type} (l:List a) (k i:Nat) (u:a):(l.set i u).take k=(l.take k).set i u:=by
 rw[List.take_set]
theorem PV [d_ P] (j:Nat) {T:TypeId} {s2:Nat} {z:V0} {dT:TypeDesc} {x y:Operand} {v u:V0} {i:Int} {m:List α} (yv:α) (Y:ev σ x=some (EL v (i.toNat*1))) (hy:ev σ y=some u) (X:e.enc yv=[u]) (A:one u=true)
  (V:M[j]? = some (Ar e v m)) (hT:d_.tab P T=some ⟨dT,1,s2,z⟩) (I:e.sz=1) (h0:0<=i) (U:i<m.length)
  (h:J c n σ (M.set j (Ar e v (m.set i.toNat yv))) L (wpList P ops Q rest)):
  J c n σ M L (wpList P ops Q (⟨none,.store T x y,ty,pos,aft,none⟩::rest)):=λa w s t=>by
 refine mS Z ?_;obtain⟨F,H⟩:=t.res V;have W:i.toNat<m.length:=by omega
 have C:m[i.toNat]? = some m[i.toNat]:=zA2 W;have E:m≠[]:=by intro e;subst e;simp at W
 obtain⟨p,hp⟩:∃p,e.enc m[i.toNat]=[p]:=List.length_eq_one_iff.1 ((e.len _).trans I);have f:=AV.cell H C (j:=0) (u:=p) (by rw[hp];rfl);rw[I,Nat.add_zero,Nat.mul_one]at f;rw[Nat.mul_one]at Y;have o:=PR H E i.toNat;have G:(execOp a.eval ⟨none,.store T x y,ty,pos,aft,none⟩).run P w = .ok .skip (w.setCell (Kr v i.toNat) u):=by
  simp only[execOp,s.eval Y,s.eval hy,EL];simp[HS (d_.ok hT) Z A f o]
 simp only[Oper.wp,G,Oper.upon];refine h _ _ s (t.upd V Z Z Z (by simp[World.setCell]) λF H _=> ?_);obtain⟨hl,U,O⟩:=H;rcases O with⟨_,O⟩|⟨b,l,r,T',K,hv,B,hb,hk,hc,ht⟩
 ·exact absurd O E
 ·subst hv;have ha:Kr (.slice (some ⟨b,l,none⟩) m.length r) i.toNat=⟨b,l+i.toNat,none⟩:=by simp[Kr,fF]
  rw[ha];refine⟨λk _ R=>Below.heap_setCell _ _ _ _ (λe=>R (by simp only at e;subst e;exact B)),F,⟨by simpa using hl,?_,.inr ⟨b,l,r,T',K.setIfInBounds (l+i.toNat) u,by simp,B,?_,by simpa using hk,by simpa using hc,?_⟩⟩,λ_ h=> .inl h⟩
  ·rw[yX I X,zA8];intro q S;rcases List.mem_or_eq_of_mem_set S with N|N
   ·exact zA8.1 U q N
   ·rw[N];exact A
  ·simp[World.setCell,Array.getElem?_modify,hb]
  ·rw[yX I X,<-ht,Array.toList_setIfInBounds,zA1,<-take_set];congr 1;rw[List.drop_set,if_neg (by omega),Nat.add_sub_cancel_left]
theorem St.allocAr {w:World} (t:St c M L w) (b:List V0) (T:TypeId) {a:List α} {k:Nat} (o:a.length=k) (r:a.length<=140737488355328) (l:b=cellsOf e a) (p:(cellsOf e a).all one=true):
  St c (Ar e (.slice (some ⟨w.heap.size,0,none⟩) k k) a::M) L (w.alloc (.cells b.toArray T)):=by
 have u:=t.alloc b T;obtain⟨s,F,f,q⟩:=u;refine⟨s,F,⟨λi m h=> ?_,f.rng,f.dis⟩,q⟩
 cases i with
 | zero =>
  simp at h;subst h;have j:=f.res 0 _ Z;refine⟨r,p,.inr ⟨w.heap.size,0,k,T,b.toArray,by rw[o],j.1,j.2,by omega,?_,?_⟩⟩
  ·simp only[Nat.zero_add,List.size_toArray,l,fM,o];exact zAe _
  ·simp only[List.drop_zero,l];rw[List.take_of_length_le (by rw[fM];exact zAe _)]
 |succ i=>exact f.res (i+1) m (by simpa using h)
theorem aP.buildSlice [d_ P] {T E:TypeId} {k K N h O:Nat} {z A:V0} {F:TypeDesc} {m:List (Nat×Operand)} {l:List (Nat×V0)} (xs:List α)
    (C:d_.tab P T=some ⟨.slice E,K,N,z⟩) (v:d_.tab P E=some ⟨F,h,O,A⟩) (J:Nat.ble (k*h) 16777216=true) (r:m.map (λp=>(p.1,ev σ p.2))=l.map (λp=>(p.1,some p.2)))
    (f:∀j:Array V0,j.size=k*h->Instr.fill (λi=>some (i*h,h)) j l=some (cellsOf e xs).toArray)
    (H:xs.length=k) (I:Nat.ble xs.length 140737488355328=true) (G:(cellsOf e xs).all one=true):
    aP P c n σ M L ⟨d,.buildSlice T k m.toArray,ty,pos,aft,g⟩ (λb:Nat=> .slice (some ⟨b,0,none⟩) k k) (λb=>Ar e (.slice (some ⟨b,0,none⟩) k k) xs::M) (λ_=>L):=λa w s t=>by
  have x:m.map (λp=>(p.1,a.eval p.2))=l:=by
    clear f
    induction m generalizing l with
    |nil=>cases l<;>simp_all
    | cons p m ih =>
      cases l with
      |nil=>simp at r
      | cons q l =>
        simp only[zBf,List.cons.injEq,Prod.mk.injEq]at r;simp only[zBf,s.eval r.1.2,r.1.1,ih r.2]
  have y : ¬ (16777216 < k * h) := by
      have : k * h ≤ 16777216 := by simpa using J
      omega
  have o:(execOp a.eval ⟨d,.buildSlice T k m.toArray,ty,pos,aft,g⟩).run P w = .ok (.value (.slice (some ⟨w.heap.size,0,none⟩) k k)) (w.alloc (.cells (cellsOf e xs).toArray E)):=by
    simp only[execOp,List.map_toArray,x,Instr.buildSlice];by_cases B:k*h=0
    · have u:=f ((Array.range (k*h)).map ((#[]:Array V0)[· % (#[]:Array V0).size]!)) (by simp);simp[(d_.ok C).run_und w,(d_.ok v).run_size w,B]at u ⊢;simp[u,newRow]
    · have u:=f ((Array.range (k*h)).map (A.cells[· % A.cells.size]!)) (by simp);simp[(d_.ok C).run_und w,(d_.ok v).run_size w,(d_.ok v).run_zero w,B,y,u,newRow]
  simp only[Oper.wp,o,Oper.upon];exact⟨w.heap.size,rfl,t.allocAr (cellsOf e xs) E H (by simpa using I) Z G⟩
theorem aP.makeSlice [d_ P] {T E:TypeId} {J K p q:Nat} {z j:V0} {r:TypeDesc} {x:Operand} {k:Int} (xs:List α)
  (B:d_.tab P T=some ⟨.slice E,J,K,z⟩) (A:d_.tab P E=some ⟨r,p,q,j⟩) (H:ev σ x=some (.int .i64 k)) (u:0<=k) (C:(q:Int)*k<=281474976710656) (y:k<=140737488355328)
  (F:xs.length=k.toNat) (I:(madeCells j.cells (k.toNat*p)).toList=cellsOf e xs) (v:(cellsOf e xs).all one=true):
  aP P c n σ M L ⟨d,.makeSlice T x x,ty,pos,aft,g⟩ (λb:Nat=> .slice (some ⟨b,0,none⟩) k.toNat k.toNat) (λb=>Ar e (.slice (some ⟨b,0,none⟩) k.toNat k.toNat) xs::M) (λ_=>L):=λa w s t=>by
 obtain⟨o,l,m,f,i⟩:=(d_.ok A).info;simp only at m f i;have G:=run_make (P:=P) w T E o j (d_.ok B).und l i .i64 .i64 k k u (Int.le_refl _) (by rw[f];exact C) (by omega);have h:(execOp a.eval ⟨d,.makeSlice T x x,ty,pos,aft,g⟩).run P w = .ok (.value (.slice (some ⟨w.heap.size,0,none⟩) k.toNat k.toNat)) (w.alloc (.cells (cellsOf e xs).toArray E)):=by
  simp only[execOp,s.eval H];have:madeCells j.cells (k.toNat*o.size)=(cellsOf e xs).toArray:=by rw[<-I,m]
  simp[G,this]
 simp only[Oper.wp,h,Oper.upon];exact⟨w.heap.size,rfl,t.allocAr (cellsOf e xs) E F (by omega) Z v⟩
theorem L_ {T ty E:TypeId} {s j:Ty} {w:World} (v:tS P T s) (z:s.desc = .slice E) (u:tS P E j) {b a k i:Nat} {f:Array V0} {r:TypeId} (y:w.heap[b]? = some (.cells f r (0,0))) {m:Nat} {x:V0} {p:List V0} (q:Src P j.size T x m p w)
  (h:k+m<=i) (A:a+i*j.size<=f.size):
  (Builtin.append_ #[T,T] ty #[.slice (some ⟨b,a,none⟩) k i,x]).run P w = .ok (.slice (some ⟨b,a,none⟩) (k+m) i) (w.setRow b (f.toList.take (a+k*j.size)++p++f.toList.drop (a+k*j.size+p.length)).toArray):=by
 have l:a+k*j.size+0+p.length<=f.size:=by
  rw[q.newsLen];have:=zAr j.size h;rw[zAy]at this;omega
 have o:=run_storeCells_at P b (a+k*j.size) r p 0 f w y l q.one;simp only[Nat.add_zero]at o;have t:=v.run_und w;rw[z]at t;simp[Builtin.append_,t,u.run_size w,q.len,h,q.cells,fF,o]
theorem QZ {T ty E:TypeId} {q f:Ty} {w:World} (u:tS P T q) (y:q.desc = .slice E) (t:tS P E f) {base:Option Addr} {k a:Nat} {b:List V0}
  (i:(Builtin.firstCells f.size k (.slice base k a)).run P w.drew = .ok b.toArray w.drew) {m:Nat} {x:V0} {p:List V0} (z:Src P f.size T x m p w) (r:a<k+m) (v:(k+m)*f.bytes<=140737488355328) (s:k+m<=140737488355328):
  (Builtin.append_ #[T,T] ty #[.slice base k a,x]).run P w = .ok (.slice (some ⟨w.heap.size,0,none⟩) (k+m) (grownCap w (k+m) a E))
   (w.drew.alloc (.cells ((b++p).toArray++Builtin.zeroCells f.zero.cells (grownCap w (k+m) a E - (k+m))) E)):=by
 obtain⟨B,o,j,l,A⟩:=t.info;have h:=growslice_fits (need:=k+m) (old:=a) (bytes:=f.bytes) r v;exact run_append_grow_src w T T ty E B f.zero (by rw[u.und,y]) o A base k a b (by rw[j];exact i) x m p (by rw[j];exact z) r (by omega) (by rw[l];exact h)
theorem AV.src [d_ P] {w:World} {F:Nat->Prop} {v:V0} {i:List α} {T E:TypeId} {s t:Nat} {z:V0} (h:AV e w F v i) (k:d_.tab P T=some ⟨.slice E,s,t,z⟩):Src P e.sz T v i.length (cellsOf e i) w:=by
 obtain⟨_,o,h⟩:=h;have f:∀u∈cellsOf e i,u.oneCell'=true:=λu a=>pT (zA8.1 o u a);rcases h with⟨rfl,rfl⟩|⟨b,r,l,x,m,rfl,_,p,A,y,q⟩
 ·exact Src.ofNil w (d_.ok k).und 0
 ·refine Src.ofSlice w (d_.ok k).und _ _ _ _ (fM e i) (λj u a=> ?_) f;rw[<-q,zAs]at a;split at a
  ·rw[zAt]at a;rw[fF];simp[World.cell?,p];simpa using a
  ·cases a
theorem AV.old [d_ P] {w:World} {F:Nat->Prop} {v:V0} {f:List α} (h:AV e w F v f):∃base a,v = .slice base f.length a/\(Builtin.firstCells e.sz f.length v).run P w.drew = .ok (cellsOf e f).toArray w.drew:=by
 obtain⟨_,r,h⟩:=h;rcases h with⟨rfl,rfl⟩|⟨b,q,a,m,k,rfl,_,o,t,s,p⟩
 ·exact⟨none,0,rfl,run_firstCells_none w.drew e.sz 0 0 0⟩
 ·refine⟨_,a,rfl,run_firstCells_some w.drew e.sz f.length _ _ _ _ (fM e f) (λj u i=> ?_)⟩
  rw[<-p,zAs]at i;split at i
  ·rw[zAt]at i;rw[fF];have l:w.drew.heap[b]? = some (.cells k m (0,0)):=o;simp[World.cell?,l];simpa using i
  ·cases i
theorem Nr (f:List V0) (b a:Nat) (i:List V0) (h:b+a+i.length<=f.length):
  ((f.take (b+a)++i++f.drop (b+a+i.length)).drop b).take (a+i.length)=(f.drop b).take a++i:=by
 have j:b+a - b=a:=by omega
 have k:((f.drop b).take a).length=a:=by simp;omega
 rw[zAz,List.drop_append_of_le_length (by simp;omega),List.drop_take,j,List.take_append,k,List.take_of_length_le (by omega)];have l:a+i.length - a=i.length:=by omega
 rw[l,List.take_append_of_le_length (zAe _),List.take_of_length_le (zAe _)]
structure aeq (w w':World) (F F':Nat->Prop):Prop where
 os:w'.os=w.os
 tape:w'.tape=w.tape
 out:w'.output=w.output
 size:w.heap.size<=w'.heap.size
 same:∀k,k<w.heap.size->¬F k->w'.heap[k]? = w.heap[k]?
 sub:∀k,F' k->F k\/(w.heap.size<=k/\k<w'.heap.size)
theorem AV.append [d_ P] {w:World} {F:Nat->Prop} {v x:V0} {xs ys:List α} {T E ty:TypeId} {s1 s2 S:Nat} {z V:V0} {W:TypeDesc} (j:AV e w F v xs) (y:Src P e.sz T x ys.length (cellsOf e ys) w) (A:(cellsOf e ys).all one=true)
  (G:d_.tab P T=some ⟨.slice E,s1,s2,z⟩) (B:d_.tab P E=some ⟨W,e.sz,S,V⟩) (X:(xs.length+ys.length)*S<=140737488355328) (K:xs.length+ys.length<=140737488355328) (hz:V.cells.size=e.sz):
  ∃U w' F',(Builtin.append_ #[T,T] ty #[v,x]).run P w = .ok U w'/\AV e w' F' U (xs++ys)/\aeq w w' F F':=by
 have l:(cellsOf e (xs++ys)).all one=true:=by
  rw[mK,List.all_append,j.2.1,A];rfl
 obtain⟨base,f,rfl,t⟩:=AV.old (P:=P) j;by_cases a:xs.length+ys.length<=f
 ·have C:=j;obtain⟨_,_,hh⟩:=j;rcases hh with⟨O,rfl⟩|⟨b,p,R,T',i,O,q,r,u,Y,ht⟩
  ·cases O;have hy:ys=[]:=zAn (by simpa using a);subst hy;refine⟨.slice none 0 0,w,F,?_,C,⟨rfl,rfl,rfl,zAe _,λ_ _ _=>rfl,λ_ h=> .inl h⟩⟩
   have hu:=(d_.ok G).run_und w;have m:=y.len w;have o:=y.cells;simp only[zAg]at m o;have H:cellsOf e ([]:List α)=[]:=rfl;rw[H]at o;simp[Builtin.append_,hu,(d_.ok B).run_size w,m,o]
  ·cases O;have N:=L_ (P:=P) (ty:=ty) (d_.ok G) Z (d_.ok B) r y a Y;have s:p+xs.length*e.sz+(cellsOf e ys).length<=i.toList.length:=by
    rw[fM];have:=zAr e.sz a;rw[zAy]at this;simp;omega
   refine⟨_,_,F,N,⟨by simpa using K,l,.inr ⟨b,p,f,T',_,by simp,q,setRow_heap w b _ _ T' _ r,by simpa using a,?_,?_⟩⟩,⟨rfl,rfl,rfl,by simp,λk _ J=>setRow_other w b k _ (λe=>J (by subst e;exact q)),λ_ h=> .inl h⟩⟩
   ·simp only[List.size_toArray,zA4,List.length_take,List.length_drop];have:i.size=i.toList.length:=by simp
    omega
   ·have:=Nr i.toList p (xs.length*e.sz) (cellsOf e ys) s;rw[zA4,zAy,<-fM e ys,mK,<-ht];exact this
 ·have N:=QZ (P:=P) (ty:=ty) (d_.ok G) Z (d_.ok B) t y (by omega) X K;have I:=grownCap_ge w (xs.length+ys.length) f E;refine⟨_,_,λk=>k=w.heap.size,N,⟨by simpa using K,l,.inr ⟨w.heap.size,0,grownCap w (xs.length+ys.length) f E,E,_,by simp,rfl,heap_alloc_new w.drew _,by simpa using I,?_,?_⟩⟩,
   ⟨rfl,rfl,rfl,by simp,λk u _=>Below.heap_alloc w.drew _ k u,λk u=> .inr ⟨by omega,by subst u;simp⟩⟩⟩
  ·simp only[Nat.zero_add,Array.size_append,List.size_toArray,zA4,fM,size_zeroCells,hz];rw[<-zAy,<-zAy];exact zAr _ (by omega)
  ·simp only[List.drop_zero,Array.toList_append,zA4];rw[<-mK,List.take_append_of_le_length (by rw[fM];simp),List.take_of_length_le (by rw[fM];simp)]
theorem St.append [d_ P] {w:World} (t:St c M L w) {i:Nat} {v x:V0} {xs ys:List α} {T E ty:TypeId} {F G l:Nat} {z m:V0} {o:TypeDesc} (k:M[i]? = some (Ar e v xs)) (B:Src P e.sz T x ys.length (cellsOf e ys) w) (f:(cellsOf e ys).all one=true)
  (r:d_.tab P T=some ⟨.slice E,F,G,z⟩) (q:d_.tab P E=some ⟨o,e.sz,l,m⟩) (s:(xs.length+ys.length)*l<=140737488355328) (u:xs.length+ys.length<=140737488355328) (C:m.cells.size=e.sz):
  ∃b w',(Builtin.append_ #[T,T] ty #[v,x]).run P w = .ok b w'/\St c (M.set i (Ar e b (xs++ys))) L w':=by
 have H:=t;obtain⟨y,I,j,h⟩:=H;obtain⟨b,w',F',A,p,a⟩:=AV.append (ty:=ty) (j.res i _ k) B f r q s u C;refine⟨b,w',A,?_⟩
 exact Gw y j h k a.os a.tape a.out a.size a.same p a.sub
end
section
variable {P:Program} {rd:Option Nat} {c:yO} {n:Sz} {σ:Fr} {M L:List bH} {Q:Exit->Act->World->Prop} {ops:Array Oper} {rest:List Oper}
variable {d:Option Tmp} {D:Nat} {ty:TypeId} {pos:String} {aft:Array Edge} {g:Option (Nat×Bool)}
variable {α:Type} {e:bM α}
theorem aP.alloc [d_ P] {T:TypeId} {h:Ty} {cs:List V0} (i:d_.tab P T=some h) (j:h.zero.cells=cs.toArray):
  aP P c n σ M L ⟨d,.alloc T,ty,pos,aft,g⟩ (λb:Nat=> .pointer (some ⟨b,0,none⟩)) (λb=>bL b cs T::M) (λ_=>L):=λa w s t=>by
 have f:(execOp a.eval ⟨d,.alloc T,ty,pos,aft,g⟩).run P w = .ok (.value (.pointer (some ⟨w.heap.size,0,none⟩))) (w.alloc (.cells cs.toArray T)):=by
  simp[execOp,JB w (d_.ok i),j]
 simp only[Oper.wp,f,Oper.upon];exact⟨w.heap.size,rfl,t.alloc cs T⟩
theorem aP.box {T:TypeId} {x:Operand} {v:V0} {cs:List V0} (h:ev σ x=some v) (i:v.cells=cs.toArray):
  aP P c n σ M L ⟨d,.box T x,ty,pos,aft,g⟩ (λb:Nat=> .pointer (some ⟨b,0,none⟩)) (λb=>bL b cs T::M) (λ_=>L):=λa w s t=>by
 have f:(execOp a.eval ⟨d,.box T x,ty,pos,aft,g⟩).run P w = .ok (.value (.pointer (some ⟨w.heap.size,0,none⟩))) (w.alloc (.cells cs.toArray T)):=by
  simp[execOp,s.eval h,Instr.box,newVar,newRow,i]
 simp only[Oper.wp,f,Oper.upon];exact⟨w.heap.size,rfl,t.alloc cs T⟩
theorem aP.call {A:Type} {j:A->V0} {m k:A->List bH->List bH} {f:FuncId} {xs:List Operand} {vs:List V0} {b:Array TypeId} {q:List bH} (v:bB P f)
  (B:bD P f vs.toArray q j m k) (E:xs.map (ev σ)=vs.map some) (u:iC L q) (p:∀x l,m x l=m x []++l) (o:∀x l,k x l=k x []++l):
  aP P c n σ M L ⟨d,.call ⟨.value (.func f),xs.toArray,b⟩,ty,pos,aft,g⟩ j (λx=>m x M) (λx=>k x L):=λa w s t=>by
 have i:(execOp a.eval ⟨d,.call ⟨.value (.func f),xs.toArray,b⟩,ty,pos,aft,g⟩).run P w = .ok (.enter f vs.toArray) w:=by
  have e:=evs s E;simp[execOp,resolve,Act.eval,Deferred.ofValue,invoke,v _ w,e]
 simp only[Oper.wp,i,Oper.upon];obtain⟨z,F,r,h⟩:=t;refine(B w (Dy c F) (λf y=>h f (u f y))).mono ?_;rintro e w' ⟨x,rfl,C⟩;refine⟨x,rfl,?_⟩
 rw[p,o];exact St.call z r h C
theorem AA [d_ P] {x y:Operand} {T:TypeId} {b f:V0} {a:Act} (s:I_ n σ a) (h:ev σ x=some b) (i:ev σ y=some f) (w:World):
  (execOp a.eval ⟨d,.call ⟨.builtin .append,#[x,y],#[T,T]⟩,ty,pos,aft,g⟩).run P w=((Builtin.append_ #[T,T] ty #[b,f]).run P w).andThen λv j=> .ok (.value v) j:=by
 simp[execOp,resolve,invoke,builtin,s.eval h,s.eval i]
theorem aP.append [d_ P] (i j:Nat) {x y:Operand} {v u:V0} {xs ys:List α} {T E:TypeId} {N O f l:Nat} {z m:V0} {o:TypeDesc} (I:ev σ x=some v) (J:ev σ y=some u) (A:M[i]? = some (Ar e v xs)) (B:M[j]? = some (Ar e u ys))
  (k:d_.tab P T=some ⟨.slice E,N,O,z⟩) (q:d_.tab P E=some ⟨o,f,l,m⟩) (p:e.sz=f) (r:(xs.length+ys.length)*l<=140737488355328) (C:xs.length+ys.length<=140737488355328) (K:m.cells.size=f):
  aP P c n σ M L ⟨d,.call ⟨.builtin .append,#[x,y],#[T,T]⟩,ty,pos,aft,g⟩ (λb:V0=>b) (λb=>M.set i (Ar e b (xs++ys))) (λ_=>L):=λa w s t=>by
 subst p;obtain⟨F,h⟩:=t.res B;obtain⟨b,w',G,H⟩:=t.append (ty:=ty) A (AV.src h k) h.2.1 k q r C K;simp only[Oper.wp,AA s I J w,G,Result.andThen_ok,Oper.upon];exact⟨b,rfl,H⟩
theorem FC.src [d_ P] {U:Type} {r:eJ U} {w:World} {S:Nat->Prop} {v:V0} {F:List U} {T E:TypeId} {s1 s2:Nat} {z:V0} (h:FC r w S v F) (N:d_.tab P T=some ⟨.slice E,s1,s2,z⟩) (hr:∀{w S l x},r.R w S l x->l.all one=true):
  ∃cs,Src P r.sz T v F.length cs w/\cs.all one=true/\cs.length=F.length*r.sz/\∀i x,F[i]? = some x->∃l,r.R w S l x/\∀j u,l[j]? = some u->cs[i*r.sz+j]? = some u:=by
 obtain⟨a,B,rfl,W,h⟩:=h;rcases h with rfl|⟨b,q,rfl,_,h⟩
 ·cases a with
  |none=>
   refine⟨[],?_,rfl,by simp,λi x m=>by simp at m⟩
   exact Src.ofNil w (d_.ok N).und B
  |some a=>
   refine⟨[],?_,rfl,by simp,λi x m=>by simp at m⟩
   exact Src.ofSlice w (d_.ok N).und a 0 B [] (by simp) (λj u f=>by simp at f) (λu f=>by simp at f)
 ·
  have O:∀(A:List U) (k:Nat),(∀i x,A[i]? = some x->∃l,(∀j e,l[j]? = some e->w.cell? ⟨b,q+((k+i)*r.sz+j),none⟩=some e)/\r.R w S l x)->
    ∃cs:List V0,cs.all one=true/\cs.length=A.length*r.sz/\(∀j u,cs[j]? = some u->w.cell? ⟨b,q+(k*r.sz+j),none⟩=some u)/\∀i x,A[i]? = some x->∃l,r.R w S l x/\∀j u,l[j]? = some u->cs[i*r.sz+j]? = some u:=by
   intro A
   induction A with
   |nil=>intro k _;exact⟨[],rfl,by simp,λj u f=>by simp at f,λi x m=>by simp at m⟩
   | cons y A ih =>
    intro k V;obtain⟨l,t,o⟩:=V 0 y Z;obtain⟨cs,G,H,J,K⟩:=ih (k+1) (λi x m=>by
     obtain⟨s,C,p⟩:=V (i+1) x (by simpa using m);refine⟨s,λj u f=> ?_,p⟩
     have:=C j u f;rwa[show k+(i+1)=k+1+i from by omega]at this)
    have I:=r.len o;refine⟨l++cs,by rw[List.all_append,hr o,G];rfl,by rw[zA4,H,I,zA9,zAy];omega,?_,?_⟩
    ·intro j u f;by_cases Y:j<l.length
     ·rw[zAc Y]at f;have:=t j u f;rwa[Nat.add_zero]at this
     ·rw[zAb (by omega)]at f;have:=J _ u f;rw[zAy,I]at this;rwa[show q+(k*r.sz+1*r.sz+(j - r.sz))=q+(k*r.sz+j)from by omega]at this
    ·intro i x m;cases i with
     |zero=>
      simp at m;subst m;refine⟨l,o,λj u f=> ?_⟩
      rw[zAc (by have:=bK f;omega)];simpa using f
     |succ i=>
      obtain⟨s,p,X⟩:=K i x (by simpa using m);refine⟨s,p,λj u f=> ?_⟩
      rw[zAb (by rw[I,zAy];omega),I];rw[show(i+1)*r.sz+j - r.sz=i*r.sz+j from by rw[zAy];omega];exact X j u f
  obtain⟨cs,G,H,J,K⟩:=O F 0 (λi x m=>by
   obtain⟨l,t,o⟩:=h i x m;exact⟨l,λj u f=>by rw[Nat.zero_add];exact t j u f,o⟩)
  refine⟨cs,?_,G,H,K⟩
  refine Src.ofSlice w (d_.ok N).und _ _ _ _ H (λj u f=> ?_) (λu f=>pT (zA8.1 G u f));rw[fF];have:=J j u f;rwa[Nat.zero_mul,Nat.zero_add]at this
def bM.Fits (e:bM α) (r:eJ α):Prop:=r.sz=e.sz/\(∀{w S es x},r.R w S es x->es=e.enc x)/\(∀{w S x},r.R w S (e.enc x) x)/\∀x,(e.enc x).all one=true
theorem Oh (k:IntKind):(bM.int k).Fits (eJ.int k):=⟨rfl,λh=>h,rfl,λ_=>rfl⟩
theorem JX {f:List V0} {a:List α} (v:f.length=a.length*e.sz) (h:∀i x,a[i]? = some x->∀j u,(e.enc x)[j]? = some u->f[i*e.sz+j]? = some u):f=cellsOf e a:=by
 apply List.ext_getElem?;intro k;by_cases t:k<a.length*e.sz
 ·have b:=e.pos;have s:k / e.sz<a.length:=Nat.div_lt_of_lt_mul (by rw[Nat.mul_comm];exact t);have w:k%e.sz<e.sz:=Nat.mod_lt _ b;have q:a[k / e.sz]? = some (a[k / e.sz]):=zA2 s;have o:=e.len a[k / e.sz];have p:(e.enc a[k / e.sz])[k%e.sz]? = some ((e.enc a[k / e.sz])[k%e.sz]'(by omega)):=zA2 _;have r:k / e.sz*e.sz+k%e.sz=k:=by rw[Nat.mul_comm];exact Nat.div_add_mod k e.sz
  have l:=h _ _ q _ _ p;have m:=Dm e a _ _ q _ _ p;rw[r]at l m;rw[l,m]
 ·rw[zAo (by omega),zAo (by rw[fM];omega)]
theorem Qd [d_ P] {r:eJ α} (b:e.Fits r) {w:World} {S:Nat->Prop} {v:V0} {f:List α} {T E:TypeId} {G H:Nat} {z:V0} (h:FC r w S v f) (q:d_.tab P T=some ⟨.slice E,G,H,z⟩):
  Src P e.sz T v f.length (cellsOf e f) w/\(cellsOf e f).all one=true:=by
 obtain⟨a,l,_,p⟩:=b;obtain⟨m,B,A,y,s⟩:=FC.src h q (λ{w S o x} hr=>by rw[l hr];exact p x);have:m=cellsOf e f:=JX (by rw[y,a]) (λi x F j u C=>by
  obtain⟨o,k,t⟩:=s i x F;rw[<-a];exact t j u (by rw[l k];exact C))
 subst this;rw[<-a];exact⟨B,A⟩
theorem AV.sl {r:eJ α} (a:e.Fits r) {w:World} {F:Nat->Prop} {v:V0} {l:List α} (h:AV e w F v l):FC r w F v l:=by
 obtain⟨f,_,p,_⟩:=a;have o:=h;obtain⟨C,_,s⟩:=h;rcases s with⟨rfl,rfl⟩|⟨b,k,cap,T,m,rfl,q,z,B,A,E⟩
 ·exact⟨none,0,rfl,by simp,.inl Z⟩
 ·refine⟨_,cap,rfl,by omega,.inr ⟨b,k,rfl,q,λi x y=>⟨e.enc x,λj u t=> ?_,p⟩⟩⟩
  have:=AV.cell o y t;simp only[Kr,fF]at this;rw[f];exact this
def gN {α:Type} (e:bM α) (vs:List V0) (xss:List (List α)):bH where
 p w F:=vs.length=xss.length/\∃G:Nat->Nat->Prop,(∀i v f,vs[i]? = some v->xss[i]? = some f->AV e w (G i) v f)/\(∀i k,G i k->F k)/\∀i j k,G i k->G j k->i=j
 mono:=by
  rintro w y S x ⟨s,G,m,h,o⟩ l;refine⟨s,λi k=>G i k/\k<w.heap.size,λi v f t u=>(Ar e v f).mono (m i v f t u) (λk a b=>⟨⟨a,b⟩,(l k (h i k a) b).2⟩),λi k a=>(l k (h i k a.1) a.2).1,λi j k q r=>o i j k q.1 r.1⟩
theorem St.merge {w:World} (t:St c M L w) (i j:Nat) {J K G:bH} (E:i≠j) (H:M[i]? = some J) (I:M[j]? = some K)
  (v:∀{w F1 F2},J.p w F1->K.p w F2->(∀k,F1 k->¬F2 k)->G.p w (λk=>F1 k\/F2 k)):St c ((M.set i G).eraseIdx j) L w:=by
 obtain⟨X,F,o,U⟩:=t;have V:=bK H;have W:=bK I;have T:=v (o.res i _ H) (o.res j _ I) (λk R S=>E (o.dis _ _ k R S));let l:Nat->Nat:=λq=>if q<j then q else q+1;refine⟨X,λq b=>q+1<M.length/\(F (l q) b\/(l q=i/\F j b)),⟨?_,?_,?_⟩,λf C=> ?_⟩
 ·intro q m v;have Y:=bK v;rw[List.length_eraseIdx_of_lt (by simpa using W),zA1]at Y;have x:q+1<M.length:=by omega
  have u:(M.set i G)[l q]? = some m:=by
   rw[List.getElem?_eraseIdx]at v;simp only[l];split
   ·rename_i B;rwa[if_pos B]at v
   ·rename_i B;rwa[if_neg B]at v
  by_cases A:l q=i
  ·rw[A,zAh V]at u;cases u;refine bH.same T (λb a=>⟨x,?_⟩) (λ_ _ _=>rfl);rcases a with a|a
   ·exact .inl (by rw[A];exact a)
   ·exact .inr ⟨A,a⟩
  ·rw[zAq (Ne.symm A)]at u;exact bH.same (o.res (l q) m u) (λb a=>⟨x,.inl a⟩) (λ_ _ _=>rfl)
 ·rintro q b ⟨_,a|⟨_,a⟩⟩
  ·exact o.rng _ b a
  ·exact o.rng _ b a
 ·have z:∀q,l q≠j:=by intro q;simp only[l];split<;>omega
  have y:∀q r,l q=l r->q=r:=by intro q r;simp only[l];split<;>split<;>omega
  rintro q r b ⟨_,a|⟨N,a⟩⟩ ⟨_,s|⟨O,s⟩⟩
  ·exact y _ _ (o.dis _ _ b a s)
  ·exact absurd (o.dis _ _ b a s) (z q)
  ·exact absurd (o.dis _ _ b s a) (z r)
  ·exact y _ _ (N.trans O.symm)
 ·exact bH.same (U f C) (λb a=>⟨a.1,by
   rintro q ⟨_,h|⟨_,h⟩⟩
   ·exact a.2 _ h
   ·exact a.2 _ h⟩) (λ_ _ _=>rfl)
theorem Wt (i j:Nat) {u:V0} {k:Int} {z:List V0} {v:List (List α)} {F:List α} {G:Act->World->Prop} (C:Nat.beq i j=false) (U:M[i]? = some (gN e z v)) (V:M[j]? = some (Ar e u F)) (X:0<=k) (Y:k<z.length)
  (h:J c n σ ((M.set i (gN e (z.set k.toNat u) (v.set k.toNat F))).eraseIdx j) L G):J c n σ M L G:=λa w s t=>
 h a w s (t.merge i j (λe=>by subst e;simp at C) U V (by
  rintro w W O ⟨p,G,R,B,S⟩ T K;have E:k.toNat<z.length:=by omega
  refine⟨by simp[p],λr b=>(r=k.toNat/\O b)\/(r≠k.toNat/\G r b),?_,?_,?_⟩
  ·intro r N q l m;by_cases A:r=k.toNat
   ·subst A;rw[zAh E]at l;rw[zAh (by omega)]at m;cases l;cases m;exact bH.same (f:=Ar e u F) T (λb o=> .inl ⟨rfl,o⟩) (λ_ _ _=>rfl)
   ·rw[zAq (Ne.symm A)]at l m;exact bH.same (f:=Ar e N q) (R r N q l m) (λb o=> .inr ⟨A,o⟩) (λ_ _ _=>rfl)
  ·rintro r b (⟨_,o⟩|⟨_,o⟩)
   ·exact .inr o
   ·exact .inl (B r b o)
  ·rintro r1 r2 b (⟨H,x⟩|⟨H,x⟩) (⟨I,y⟩|⟨I,y⟩)
   ·rw[H,I]
   ·exact absurd x (K b (B _ b y))
   ·exact absurd y (K b (B _ b x))
   ·exact S _ _ b x y))
theorem abv {r:eJ α} (h:e.Fits r) {v:V0} {f:List V0} {a:List (List α)} {w:World} {z A:Nat->Prop} (B:(Ar bM.raw v f).p w z) (K:(gN e f a).p w A):FC (eJ.sl r) w (λk=>z k\/A k) v (f.zip a):=by
 obtain⟨i,G,I,J,_⟩:=K;have F:(f.zip a).length=f.length:=by simp[i]
 have o:=B;obtain⟨V,_,N⟩:=B;rcases N with⟨rfl,rfl⟩|⟨b,y,m,T,H,rfl,s,S,C,U,W⟩
 ·exact⟨none,0,rfl,by simp,.inl Z⟩
 ·refine⟨_,m,by rw[F],by rw[F];omega,.inr ⟨b,y,rfl,.inl s,λq x l=> ?_⟩⟩
  have E:f[q]? = some x.1:=by rw[List.getElem?_zip_eq_some]at l;exact l.1
  have t:a[q]? = some x.2:=by rw[List.getElem?_zip_eq_some]at l;exact l.2
  refine⟨[x.1],λR u O=> ?_,rfl,?_⟩
  ·have:=AV.cell o E (j:=R) (u:=u) O;simp only[Kr,fF]at this;exact this
  ·exact(Sl r x.1 x.2).mono (AV.sl h (I q _ _ E t)) (λk C _=>⟨.inr (J _ k C),rfl⟩)
def acA (p:Prop):bH:=⟨λ_ _=>p,λh _=>h⟩
theorem acy {p:Prop} {G:Act->World->Prop} (b:acA p∈L) (h:p->J c n σ M L G):J c n σ M L G:=λa w s t=>h (by obtain⟨_,f⟩:=t.fact b;exact f) a w s t
end
theorem mixedOrders:Go.Proofs.Tryz.prog.follows .mixedOrders=true:=by kernel_rfl
section
variable {P:Program} {rd:Option Nat} {c:yO} {n:Sz} {σ:Fr} {M L:List bH} {Q:Exit->Act->World->Prop} {ops:Array Oper} {rest:List Oper}
theorem CJ {d:Option Tmp} {j:TypeId} {h:String} {e:Array Edge} {g:Option (Nat×Bool)} {T:TypeId} {ps:List (Nat×Operand)} {vs:List (Nat×V0)} {r:V0} (b:ps.map (λp=>(p.1,ev σ p.2))=vs.map (λp=>(p.1,some p.2)))
  (i:∀w,(Instr.build T vs.toArray).run P w = .ok r w):Y P c n σ M L ⟨d,.build T ps.toArray,j,h,e,g⟩ r:=λa w s _=>by
 have f:ps.map (λp=>(p.1,a.eval p.2))=vs:=by
  clear i
  induction ps generalizing vs with
  |nil=>cases vs<;>simp_all
  | cons p ps ih =>
   cases vs with
   |nil=>simp at b
   |cons q vs=>
    simp only[zBf,List.cons.injEq,Prod.mk.injEq]at b;simp only[zBf,s.eval b.1.2,b.1.1,ih b.2]
 simp only[execOp,List.map_toArray,f];simp[i w]
theorem Ov {d:Option Tmp} {f:TypeId} {b:String} {a:Array Edge} {g:Option (Nat×Bool)} {T:TypeId} {r:V0} (e:∀w,(Instr.build T ([]:List (Nat×V0)).toArray).run P w = .ok r w):Y P c n σ M L ⟨d,.build T #[],f,b,a,g⟩ r:=
 CJ (ps:=[]) (vs:=[]) (by simp) e
theorem Ow {d:Option Tmp} {k:TypeId} {e:String} {b:Array Edge} {g:Option (Nat×Bool)} {T:TypeId} {a:Nat} {h:Operand} {f r:V0} (i:ev σ h=some f) (j:∀w,(Instr.build T ([(a,f)]:List (Nat×V0)).toArray).run P w = .ok r w):Y P c n σ M L ⟨d,.build T #[(a,h)],k,e,b,g⟩ r:=
 CJ (ps:=[(a,h)]) (vs:=[(a,f)]) (by simp[i]) j
theorem DC {d:Option Tmp} {p:TypeId} {f:String} {e:Array Edge} {g:Option (Nat×Bool)} {T:TypeId} {a b:Nat} {j k:Operand} {h i r:V0} (l:ev σ j=some h) (m:ev σ k=some i) (o:∀w,(Instr.build T ([(a,h),(b,i)]:List (Nat×V0)).toArray).run P w = .ok r w):Y P c n σ M L ⟨d,.build T #[(a,j),(b,k)],p,f,e,g⟩ r:=
 CJ (ps:=[(a,j),(b,k)]) (vs:=[(a,h),(b,i)]) (by simp[l,m]) o
theorem Jh {d:Option Tmp} {u:TypeId} {h:String} {f:Array Edge} {g:Option (Nat×Bool)} {T:TypeId} {a b e:Nat} {l m o:Operand} {i j k r:V0} (p:ev σ l=some i) (q:ev σ m=some j) (s:ev σ o=some k) (t:∀w,(Instr.build T ([(a,i),(b,j),(e,k)]:List (Nat×V0)).toArray).run P w = .ok r w):Y P c n σ M L ⟨d,.build T #[(a,l),(b,m),(e,o)],u,h,f,g⟩ r:=
 CJ (ps:=[(a,l),(b,m),(e,o)]) (vs:=[(a,i),(b,j),(e,k)]) (by simp[p,q,s]) t
theorem WF {d:Option Tmp} {z:TypeId} {i:String} {h:Array Edge} {g:Option (Nat×Bool)} {T:TypeId} {a b e f:Nat} {o p q s:Operand} {j k l m r:V0} (t:ev σ o=some j) (u:ev σ p=some k) (v:ev σ q=some l) (x:ev σ s=some m) (y:∀w,(Instr.build T ([(a,j),(b,k),(e,l),(f,m)]:List (Nat×V0)).toArray).run P w = .ok r w):Y P c n σ M L ⟨d,.build T #[(a,o),(b,p),(e,q),(f,s)],z,i,h,g⟩ r:=
 CJ (ps:=[(a,o),(b,p),(e,q),(f,s)]) (vs:=[(a,j),(b,k),(e,l),(f,m)]) (by simp[t,u,v,x]) y
theorem fR (cs:Array V0):(Value.agg cs).cells=cs:=rfl
end
section
variable {P:Program} {rd:Option Nat} {c:yO} {n:Sz} {σ:Fr} {M L:List bH} {Q:Exit->Act->World->Prop} {l:List Oper} {m:List Nat} {k0:Nat} {H Bs:List (Nat×List bH×List bH)} {rest:List Nat}
theorem yF {i d g:Nat} {o:Op} {p:TypeId} {f:String} {e:Array Edge} {j:Nat} {b:Bool}
  (x:l[i]? = some ⟨some d,o,p,f,e,some (j,b)⟩:=by exact rfl) (y:(l[j]?).bind (·.dst)=some g:=by exact rfl) (v:lk σ g=some undef:=by exact rfl) (u:Nat.blt d n.sz=true:=by exact rfl)
  (h:JR c n ((d,undef)::σ) M L H Bs (RW P l.toArray Q (before m) (eK l) k0 rest)):JR c n σ M L H Bs (RW P l.toArray Q (before m) (eK l) k0 (i::rest)):=λa w X Y s t q r=>by
 have k:l.toArray[i]? = some ⟨some d,o,p,f,e,some (j,b)⟩:=by simpa using x
 have z:yielded l.toArray a.tmps j=none:=by
  unfold yielded;have:(l.toArray[j]?).bind (·.dst)=some g:=by simpa using y
  rw[this,Option.bind_some,s.slot g _ v];rfl
 simp only[RW,k];rw[if_neg (by simp[Region.wanted,z])];exact h _ w X Y (s.put d undef u) t q r
theorem aer {e:Array Oper} {rest:List Oper} {d g:Nat} {r:Op} {u:TypeId} {i:String} {f:Array Edge} {j:Nat} {b:Bool}
  (p:(e[j]?).bind (·.dst)=some g:=by exact rfl) (o:lk σ g=some undef:=by exact rfl) (k:Nat.blt d n.sz=true:=by exact rfl) (h:J c n ((d,undef)::σ) M L (wpList P e Q rest)):
  J c n σ M L (wpList P e Q (⟨some d,r,u,i,f,some (j,b)⟩::rest)):=λa w s t=>by
 have q:yielded e a.tmps j=none:=by
  unfold yielded;rw[p,Option.bind_some,s.slot g _ o];rfl
 unfold wpList;rw[if_neg (by simp[Region.wanted,q])];exact h _ w (s.put d undef k) t
theorem JR.open {r:List Nat} (e:List.range l.length=r) (h:JR c n σ M L H Bs (RW P l.toArray Q (before m) (eK l) k0 r)):JR c n σ M L H Bs (RW P l.toArray Q (before m) (eK l) k0 (List.range l.length)):=by rw[e];exact h
end
theorem Sm {c:Array Oper} {x y:Oper} (h:x.apart c y=true):y.apart c x=true:=by
 obtain⟨g,i,j⟩:=Oper.apart_spec h;unfold Oper.apart;rw[zA6];constructor
 ·cases f:y.dst with
  |none=>rfl
  |some d=>
   have a:=j d f;have b:x.dst≠some d:=λe=>i d e (by rw[f]);simp[a,b]
 ·cases k:x.dst with
  |none=>rfl
  |some d=>simp[g d k]
def adk (l:List Oper) (m:List Nat) (a:Nat):Bool:=
  (List.range l.length).all λi=>match l[i]? with
    |none=>false
    | some o =>
      (v_ o).all (λe=>Nat.blt e i&&before m i e) &&
      (List.range l.length).all (λk=> !before m i k||(Nat.blt k i&&(v_ o).any (λe=>Nat.beq e k||before m e k))) &&
      !Ei o.op &&
      (if Nat.ble a i then(List.range i).all (λx=>before m i x)
       else(List.range i).all (λx=>before m i x||(match l[x]? with|none=>false|some b=>b.apart l.toArray o)))
structure ZA (l:List Oper) (m:List Nat) (k0:Nat):Prop where
 edge:∀(i:Nat) (o:Oper),l[i]? = some o->∀e∈v_ o,e<i/\before m i e=true
 trans:∀(i:Nat) (o:Oper),l[i]? = some o->∀k,before m i k=true->k<l.length->k<i/\∃e∈v_ o,e=k\/before m e k=true
 sel:∀(i:Nat) (o:Oper),l[i]? = some o->∀cs b,o.op ≠ .select cs b
 tail:∀i x,i<l.length->k0<=i->x<i->before m i x=true
 ind:∀(i x:Nat) (oi ox:Oper),l[i]? = some oi->l[x]? = some ox->i<k0->x<i->before m i x=false->ox.apart l.toArray oi=true
theorem Vo {l:List Oper} {m:List Nat} {q:Nat} (h:adk l m q=true):ZA l m q:=by
  have a:∀(i:Nat) (o:Oper),l[i]? = some o->
      ((v_ o).all (λe=>Nat.blt e i&&before m i e)=true)/\
      ((List.range l.length).all (λk=> !before m i k||(Nat.blt k i&&(v_ o).any (λe=>Nat.beq e k||before m e k)))=true)/\Ei o.op=false/\
      ((if Nat.ble q i then(List.range i).all (λx=>before m i x)
       else(List.range i).all (λx=>before m i x||(match l[x]? with|none=>false|some r=>r.apart l.toArray o)))=true):=by
    intro i o c;have:=zA8.1 h i (zAp.2 (bK c));simp only[c,zA6,Bool.not_eq_true']at this;exact⟨this.1.1.1,this.1.1.2,this.1.2,this.2⟩
  refine⟨?_,?_,?_,?_,?_⟩
  · intro i o c e j;have:=zA8.1 (a i o c).1 e j;simp only[zA6,zAv]at this;exact this
  · intro i o c k g d;have:=zA8.1 (a i o c).2.1 k (zAp.2 d);simp only[g,Bool.not_true,Bool.false_or,zA6,zAv,List.any_eq_true,zB5]at this;obtain⟨s,e,j,f⟩:=this;refine⟨s,e,j,?_⟩
    rcases f with f|f
    · exact .inl (zA7 f)
    · exact .inr f
  · intro i o c v b e;have:=(a i o c).2.2.1;rw[e]at this;cases this
  · intro i x n g p;obtain⟨o,c⟩:∃o,l[i]? = some o:=⟨_,zA2 n⟩
    have:=(a i o c).2.2.2;rw[if_pos (by simpa using g)]at this;exact zA8.1 this x (zAp.2 p)
  · intro i x u r n p g d t;have:=(a i u n).2.2.2;rw[if_neg (by simpa using g)]at this;have:=zA8.1 this x (zAp.2 d);simp only[t,Bool.false_or,p]at this;exact this
def Zv (l:List Oper):Array Bool->List Nat->Prop
 |listed,[]=>∀i,i<l.length->listed.getD i true=true
 |listed,i::s=>i∈Region.ready .any l.toArray listed/\Zv l (listed.setIfInBounds i true) s
def left (l:List Oper) (a:Array Bool):List Nat:=(List.range l.length).filter λi=> !a.getD i true
theorem mem_left {l:List Oper} {a:Array Bool} {i:Nat}:i∈left l a↔i<l.length/\a.getD i true=false:=by
 unfold left;rw[List.mem_filter,zAp];constructor
 ·rintro⟨b,c⟩;exact⟨b,by simpa using c⟩
 ·rintro⟨b,c⟩;exact⟨b,by rw[c];rfl⟩
theorem Ya {l:List Oper} {a:Array Bool} (c:a.size=l.length) {i:Nat} (d:i∈left l a):(left l (a.setIfInBounds i true)).length<(left l a).length:=by
 have b:=(mem_left.1 d).1;have:left l (a.setIfInBounds i true)=(left l a).filter (λj=> !(j==i)):=by
  unfold left;rw[List.filter_filter];apply List.filter_congr;intro j f;by_cases e:i=j
  ·subst e;simp[c,b]
  ·rw[getD_set_ne true e];have:(j==i)=false:=by simpa using λh=>e h.symm
   simp[this]
 rw[this];apply List.length_filter_lt_length_iff_exists.2;exact⟨i,d,by simp⟩
theorem adI {l:List Oper} {m:List Nat} {A:Nat} (hc:ZA l m A):∀(b t:Nat) (a:Array Bool),(left l a).length<=b->a.size=l.length->Zv l a (Region.linearise.go .any l.toArray b t a []):=by
 intro b
 induction b with
 | zero =>
  intro t a k f;simp only[Region.linearise.go,List.reverse_nil,Zv];intro i g;cases h:a.getD i true with
  |true=>rfl
  |false=>
   have:=mem_left.2 ⟨g,h⟩;have c:left l a=[]:=zAn (by omega);rw[c]at this;simp at this
 | succ b ih =>
  intro t a k f;simp only[Region.linearise.go];change Zv l a (match (Region.ready .any l.toArray a)[t%(Region.ready .any l.toArray a).length]? with
   |some i=>Region.linearise.go .any l.toArray b (t / (Region.ready .any l.toArray a).length) (a.setIfInBounds i true) [i]
   |none=>[].reverse)
  cases g:(Region.ready .any l.toArray a)[t%(Region.ready .any l.toArray a).length]? with
  | none =>
   have c:Region.ready .any l.toArray a=[]:=by
    cases z:Region.ready .any l.toArray a with
    |nil=>rfl
    |cons x u=>
     rw[z]at g;have d:t%(x::u).length<(x::u).length:=Nat.mod_lt _ (by simp);simp at g;simp at d;omega
   simp only[List.reverse_nil,Zv];intro i
   induction i using Nat.strongRecOn with
   | _ i ihi =>
    intro d;cases h:a.getD i true with
    |true=>rfl
    | false =>
     exfalso;obtain⟨o,n⟩:∃o,l[i]? = some o:=⟨_,zA2 d⟩
     have:i∈Region.ready .any l.toArray a:=by
      refine mem_ready.2 ⟨h,o,by simpa using n,λe y w=> ?_⟩;have p:e.on∈v_ o:=zB9.2 ⟨e,List.mem_filter.2 ⟨by simpa using y,w⟩,rfl⟩;have q:=(hc.edge i o n e.on p).1;have s:=ihi e.on q (by omega);have:e.on<a.size:=by omega
      simp[this]at s ⊢;exact s
     rw[c]at this;simp at this
  |some i=>
   simp only[];rw[linearise_go_acc,List.reverse_singleton,List.singleton_append];have j:=zA0 g;refine⟨j,ih _ _ ?_ (by simp[f])⟩
   obtain⟨v,o,n,_⟩:=mem_ready.1 j;have r:i∈left l a:=mem_left.2 ⟨by have:=(zAj.1 n).1;simpa using this,v⟩;have:=Ya f r;omega
section
variable {P:Program} {Q:Exit->Act->World->Prop} {l:List Oper} {m:List Nat} {k0:Nat}
theorem WB (hc:ZA l m k0):∀(s:List Nat) (L:List Nat) (c:Array Bool) (a:Act) (w:World) (H:List (Nat×World)) (Bs:List (Nat×(World->Prop))),
  Zv l c s->c.size=l.length->L.Nodup->L.Pairwise (λx i=>before m x i=false)->(∀i,i∈L↔i<l.length/\c.getD i true=false)->
  (∀j k,c.getD j false=true->before m j k=true->k<l.length->c.getD k false=true)->L.filter (eK l)=s.filter (eK l)->
  RW P l.toArray Q (before m) (eK l) k0 L a w H Bs->Mv P l.toArray Q s a w:=by
 intro s
 induction s with
 | nil =>
  intro L c a w H Bs C ac ai ak n T K h;have hL:L=[]:=by
   cases L with
   |nil=>rfl
   |cons i L=>
    have:=(n i).1 zAf;rw[C i this.1]at this;cases this.2
  subst hL;exact h
 | cons i s ih =>
  intro L c a w H Bs C ac ai ak n T K h;obtain⟨hi,X⟩:=C;obtain⟨h0,o,aj,U⟩:=mem_ready.1 hi;have ho:l[i]? = some o:=by simpa using aj
  have Y:i<l.length:=bK ho;have aq:i∈L:=(n i).2 ⟨Y,h0⟩;obtain⟨p,L2,rfl⟩:=List.append_of_mem aq;have q:=List.nodup_append.1 ai;have M:i∉p:=λd=>(q.2.2 i d i zAf) Z;have ap:i∉L2:=(List.nodup_cons.1 q.2.1).1;have u:=List.pairwise_append.1 ak;have J:∀x∈p,before m x i=false:=λx d=>u.2.2 x d i zAf;have N:∀k,before m i k=true->k<l.length->c.getD k false=true:=by
   intro k hk ah;obtain⟨_,e,he,V⟩:=hc.trans i o ho k hk ah;obtain⟨ed,an,rfl⟩:=zB9.1 he;obtain⟨ae,af⟩:=List.mem_filter.1 an;have hl:=U ed (by simpa using ae) af;rcases V with rfl|V
   ·exact hl
   ·exact T _ _ hl V ah
  have aa:∀x∈p,before m i x=false:=by
   intro x d;cases hb:before m i x with
   |false=>rfl
   |true=>
    have t:=((n x).1 (by simp[d]))
    have:=N x hb t.1;have au:x<c.size:=by omega
    simp[au]at this t;rw[this]at t;simp at t
  have D:eK l i=true->∀x∈p,eK l x=false:=by
   intro g x d;rw[List.filter_append,List.filter_cons_of_pos g,List.filter_cons_of_pos g]at K;cases ar:eK l x with
   |false=>rfl
   | true =>
    exfalso;have hm:x∈p.filter (eK l):=List.mem_filter.2 ⟨d,ar⟩;cases hL:p.filter (eK l)with
    |nil=>rw[hL]at hm;simp at hm
    |cons y ys=>
     rw[hL,List.cons_append]at K;have:y=i:=(List.cons.inj K).1;have hy:y∈p.filter (eK l):=by rw[hL];exact zAf
     rw[this]at hy;exact M (List.mem_filter.1 hy).1
  have ao:(p++L2).filter (eK l)=s.filter (eK l):=by
   rw[List.filter_append]at K ⊢;cases g:eK l i with
   |false=>rw[List.filter_cons_of_neg (by rw[g];simp),List.filter_cons_of_neg (by rw[g];simp)]at K;exact K
   |true=>
    have hn:p.filter (eK l)=[]:=List.filter_eq_nil_iff.2 (λx d=>by rw[D g x d];simp);rw[List.filter_cons_of_pos g,List.filter_cons_of_pos g,hn]at K;rw[hn];exact(List.cons.inj K).2
  have next:∀G I H' S,RW P l.toArray Q (before m) (eK l) k0 (p++L2) G I H' S->Mv P l.toArray Q s G I:=by
   intro G I H' S hr;refine ih (p++L2) _ G I H' S X (by simp[ac]) ?_ ?_ ?_ ?_ ao hr
   ·exact List.nodup_append.2 ⟨q.1,(List.nodup_cons.1 q.2.1).2,λx d y hy=>q.2.2 x d y (zAl _ hy)⟩
   ·exact List.pairwise_append.2 ⟨u.1,(List.pairwise_cons.1 u.2.1).2,λx d y hy=>u.2.2 x d y (zAl _ hy)⟩
   ·intro j;by_cases e:i=j
    ·subst e;constructor
     ·intro f;rcases zB0.1 f with f|f
      ·exact absurd f M
      ·exact absurd f ap
     ·rintro⟨_,f⟩;simp[ac,Y]at f
    ·rw[getD_set_ne true e];have:=n j;simp only[zB0,zAm]at this ⊢;constructor
     ·intro f;exact this.1 (by rcases f with f|f;exact .inl f;exact .inr (.inr f))
     ·intro f;rcases this.2 f with f|rfl|f
      ·exact .inl f
      ·exact absurd Z e
      ·exact .inr f
   ·intro j k f ag hk;by_cases e:i=j
    ·subst e;exact getD_set_true (N k ag hk)
    ·rw[getD_set_ne false e]at f;exact getD_set_true (T j k f ag hk)
  have E:l.toArray[i]? = some o:=aj;rw[Tz];have F:∀x∈p,x<l.length:=λx d=>((n x).1 (by simp[d])).1;by_cases hk:k0<=i
  ·have ad:p=[]:=by
    cases p with
    |nil=>rfl
    |cons x p=>
     exfalso;have z:=aa x zAf;have A:=J x zAf;have d:=F x zAf;rcases Nat.lt_trichotomy x i with r|r|r
     ·rw[hc.tail i x Y hk r]at z;cases z
     ·exact M (by rw[<-r];exact zAf)
     ·rw[hc.tail x i d (by omega) r]at A;cases A
   subst ad;simp only[zBb,RW,E]at h;unfold wpOp;simp only[E];split
   ·rename_i hw;rw[if_pos hw]at h;rcases h with⟨_,h|h⟩|⟨h,_⟩|⟨h,_⟩
    ·exact .inl (Oper.wp_mono (λG I hr=>next G I _ _ hr) h)
    ·exact .inr (Oper.rnd_mono (λG I hr=>next G I _ _ hr) h)
    ·omega
    ·omega
   ·rename_i hw;rw[if_neg hw]at h;exact next _ _ _ _ h
  ·have W:i<k0:=by omega
   have O:∀x∈p,Lc l.toArray (before m) (eK l) x i/\x<k0:=by
    intro x d;have t:=F x d;obtain⟨ox,ab⟩:∃ox,l[x]? = some ox:=⟨_,zA2 t⟩
    have al:x<k0:=by
     rcases zAu x k0 with r|r
     ·exact r
     ·have:=J x d;rw[hc.tail x i t r (by omega)]at this;cases this
    have am:ox.apart l.toArray o=true:=by
     rcases Nat.lt_trichotomy x i with r|r|r
     ·exact hc.ind i x o ox ho ab W r (aa x d)
     ·exact absurd (by rw[<-r];exact d) M
     ·exact Sm (hc.ind x i ox o ab ho al r (J x d))
    refine⟨⟨aa x d,J x d,?_,?_⟩,al⟩
    ·intro aw av z A;have e1:ox=aw:=by simpa [ab]using z
     have e2:o=av:=by simpa [ho]using A
     rw[<-e1,<-e2];exact am
    ·cases g:eK l i with
     |false=>exact .inr Z
     |true=>exact .inl (D g x d)
   have R:∀(i:Nat) (o:Oper),l.toArray[i]? = some o->∀cs b,o.op ≠ .select cs b:=λi o h=>hc.sel i o (by simpa using h);unfold wpOp;simp only[E];cases hl:eK l i with
   | false =>
    rcases Hg R E W hl p a w H Bs O h with⟨z,A⟩|⟨z,v,B,⟨hb,_,hr⟩,A⟩
    ·rw[z];exact next _ _ _ _ A
    ·rw[z];exact .inl (by simp only[Oper.wp,hr w hb,Oper.upon];exact next _ _ _ _ A)
   | true =>
    rcases Ic R E W hl p a w H Bs O h with⟨z,A⟩|⟨z,A⟩
    ·rw[z];exact next _ _ _ _ A
    ·rw[z];exact .inl (LV (oH (λG I hh=>next G I _ _ hh.2) A))
def LF (x:Nat):List Nat->List (List Nat)
 | []=>[[x]]
 |y::ys=>(x::y::ys)::(LF x ys).map (y::·)
def Ed:List Nat->List (List Nat)
 | []=>[[]]
 |x::xs=>(Ed xs).flatMap (LF x)
theorem LN (x:Nat) (b:List Nat):∀a:List Nat,a++x::b∈LF x (a++b)
 | []=>by cases b<;>simp[LF]
 |y::a=>by
  simp only[List.cons_append,LF,zAm,zB9];exact .inr ⟨_,LN x b a,rfl⟩
theorem Hn:∀(l s:List Nat),s.Perm l->s∈Ed l
 | [],s,h=>by simp[Ed,h.eq_nil]
 | x :: l, s, h => by
  have d:x∈s:=h.symm.subset zAf;obtain⟨a,b,rfl⟩:=List.append_of_mem d;have c:(a++b).Perm l:=by
   have:(x::(a++b)).Perm (x::l):=(List.perm_middle.symm).trans h;exact(List.perm_cons x).1 this
  simp only[Ed,List.mem_flatMap];exact⟨a++b,Hn l _ c,LN x b a⟩
def pw (m:List Nat):List Nat->Bool
 | []=>true
 |x::L=>L.all (λi=> !before m x i && !Nat.beq x i)&&pw m L
theorem Uw (m:List Nat):∀L:List Nat,pw m L=true->L.Nodup/\L.Pairwise (λx i=>before m x i=false)
 | [],_=>⟨List.nodup_nil,List.Pairwise.nil⟩
 |x::L,h=>by
  simp only[pw,zA6]at h;obtain⟨b,c⟩:=Uw m L h.2;have a:=zA8.1 h.1;refine⟨List.nodup_cons.2 ⟨λe=> ?_,b⟩,List.pairwise_cons.2 ⟨λi d=> ?_,c⟩⟩
  ·have:=a x e;simp at this
  ·have:=a i d;simp only[zA6,Bool.not_eq_true']at this;exact this.1
def Xo (l:List Oper) (m:List Nat) (LL:List (List Nat)):Bool:=
 (LL.all λL=>pw m L&&L.all (λi=>Nat.blt i l.length)&&(List.range l.length).all (λi=>L.contains i)) &&
 ((Ed ((List.range l.length).filter (eK l))).all λs=> !pw m s||LL.any λL=>L.filter (eK l)==s)
theorem Ng {hc:ZA l m k0}:∀(s:List Nat) (a:Array Bool),a.size=l.length->Zv l a s->
  (∀j k,a.getD j false=true->before m j k=true->k<l.length->a.getD k false=true)->
  s.Nodup/\(∀i,i∈s↔i<l.length/\a.getD i true=false)/\s.Pairwise (λx i=>before m x i=false)
 | [],a,_,h,_=>⟨List.nodup_nil,λi=>⟨λB=>by simp at B,fun⟨z,g⟩=>by rw[h i z]at g;cases g⟩,List.Pairwise.nil⟩
 | i :: s, a, hsz, h, hcl => by
  obtain⟨M,y⟩:=h;obtain⟨I,o,C,d⟩:=mem_ready.1 M;have F:l[i]? = some o:=by simpa using C
  have t:=bK F;have c:∀k,before m i k=true->k<l.length->a.getD k false=true:=by
   intro k w r;obtain⟨_,e,L,f⟩:=hc.trans i o F k w r;obtain⟨H,A,rfl⟩:=zB9.1 L;obtain⟨n,p⟩:=List.mem_filter.1 A;have y:=d H (by simpa using n) p;rcases f with rfl|f
   ·exact y
   ·exact hcl _ _ y f r
  obtain⟨z,g,J⟩:=Ng (hc:=hc) s (a.setIfInBounds i true) (by simp[hsz]) y (λj k E q w=>by
   by_cases e:i=j
   ·subst e;exact getD_set_true (c k q w)
   ·rw[getD_set_ne false e]at E;exact getD_set_true (hcl j k E q w))
  have v:i∉s:=λB=>by
   have:=((g i).1 B).2;simp[hsz,t]at this
  refine⟨List.nodup_cons.2 ⟨v,z⟩,λj=> ?_,List.pairwise_cons.2 ⟨λx G=> ?_,J⟩⟩
  ·by_cases e:i=j
   ·subst e;simp[t,I]
   ·rw[zAm,g j,getD_set_ne true e];constructor
    ·rintro(h|h)
     ·exact absurd h.symm e
     ·exact h
    ·exact λh=> .inr h
  ·cases K:before m i x with
   |false=>rfl
   |true=>
    have b:=(g x).1 G;have D:i≠x:=λe=>v (e▸G);rw[getD_set_ne true D]at b;have:=c x K b.1;have u:x<a.size:=by omega
    simp[u]at this b;rw[this]at b;simp at b
theorem JM {S:Option Nat} {id:Nat} {a:Act} {w:World} (E:List (List Nat)) (M:l.all kB=true) (O:P.follows .mixedOrders=true) (J:adk l m k0=true) (C:Xo l m E=true)
  (h:∀L∈E,RW P l.toArray Q (before m) (eK l) k0 L a w.drew [] []):(Code.region id l.toArray true).wpr S P Q a w:=by
 refine KB M λt=> ?_;have f:=Vo J;simp only[Region.schedule,O,Bool.true_or,if_true,Region.linearise];have H:∀i,i<l.length->(Array.replicate l.toArray.size false).getD i true=false:=λi d=>by simp[d]
 have n:∀j k,(Array.replicate l.toArray.size false).getD j false=true->before m j k=true->k<l.length->(Array.replicate l.toArray.size false).getD k false=true:=by
  intro j k A;simp[Array.getElem?_replicate]at A;split at A<;>simp at A
 have c:=adI f l.toArray.size t (Array.replicate l.toArray.size false) (by unfold left;exact zB1 (List.length_filter_le _ _) (by simp)) (by simp);generalize Region.linearise.go .any l.toArray l.toArray.size t (Array.replicate l.toArray.size false) []=s at c;obtain⟨K,o,R⟩:=Ng (hc:=f) s _ (by simp) c n;simp only[Xo,zA6]at C;have g:s.Perm (List.range l.length):=by
  refine(List.perm_ext_iff_of_nodup K List.nodup_range).2 λi=> ?_;rw[o i,zAp];exact⟨λh=>h.1,λh=>⟨h,H i h⟩⟩
 have B:=Hn _ _ (g.filter (eK l));have v:=zA8.1 C.2 _ B;have u:pw m (s.filter (eK l))=true:=by
  have p:(s.filter (eK l)).Nodup:=List.Pairwise.filter _ K;have r:(s.filter (eK l)).Pairwise (λx i=>before m x i=false):=List.Pairwise.filter _ R;generalize s.filter (eK l)=q at p r
  induction q with
  |nil=>rfl
  |cons x q D=>
   have F:=List.nodup_cons.1 p;have G:=List.pairwise_cons.1 r;simp only[pw,zA6,zA8,Bool.not_eq_true'];refine⟨λi d=>⟨G.1 i d,oZ (λe=>F.1 (e▸d))⟩,D F.2 G.2⟩
 rw[u]at v;simp only[Bool.not_true,Bool.false_or,List.any_eq_true]at v;obtain⟨L,I,N⟩:=v;have b:=zA8.1 C.1 L I;simp only[zA6,zA8,zAv,zAp,List.contains_iff_mem]at b;obtain⟨y,z⟩:=Uw m L b.1.1;exact WB f s L _ a _ [] [] c (by simp) y z (λi=>⟨λd=>⟨b.1.2 i d,H i (b.1.2 i d)⟩,λd=>b.2 i d.1⟩) n (by simpa using N) (h L I)
theorem Ea {k:Option Nat} {c:yO} {n:Sz} {d:Fr} {M L:List bH} {id:Nat} (m:List Nat) (k0:Nat) (b:List (List Nat)) (g:P.follows .mixedOrders=true) (e:adk l m k0=true) (j:Xo l m b=true)
  (h:∀o∈b,JR c n d M L [] [] (RW P l.toArray Q (before m) (eK l) k0 o)) (f:l.all kB=true:=by rfl):J c n d M L ((Code.region id l.toArray true).wpr k P Q):=λa w s t=>
 JM b f g e j λo i=>h o i a w.drew [] [] s (t.ext ((Below.refl _ _).drew)) trivial trivial
end
end Go.Sx
section
set_option maxRecDepth 100000
namespace Go.Sx
open Go.RowKit Go.ChangeShapes Go.WideShapes Go.ChangeAt Go.Proofs Go.Joins
theorem ahA:ownKnob Tryz.prog.godebug=none:=by kernel_rfl
theorem afa:laidOutB Tryz.prog=true:=by kernel_rfl
section
variable {H:Type} {enc:TypeId×V0->H} {P:Program}
theorem Hz (j:laidOutB P=true) {W g:World} (i:Nb W g):∀(a:List TypeId) (e:List V0) (c:List (DataW H)) (p:List MemPlace),(a.all λt=>P.readableRec t&&decide (t<P.types.size))=true->
  DataW.TrodAll enc P W 0 (λ_=>true) true a e c p->(∀x∈p,x.block<W.heap.size)->DataW.TrodAll enc P g 0 (λb=>decide (b<W.heap.size)) true a e c p
 | [],[],[],_,_,h,_=>h
 |t::a,v::e,d::c,ps,hr,h,hlt=>by
  obtain⟨p,q,k,l,rfl⟩:=h;simp only[List.all_cons,zA6,zAa]at hr;exact⟨p,q,Below.trod j hr.1.1 hr.1.2 k i (λx f=>hlt x (List.mem_append_left _ f)),Hz j i a e c q (by simpa using hr.2) l (λx f=>hlt x (List.mem_append_right _ f)),rfl⟩
 | [],[],_::_,_,_,h,_=>h.elim
 | [],_::_,_,_,_,h,_=>h.elim
 |_::_,[],_,_,_,h,_=>h.elim
 |_::_,_::_,[],_,_,h,_=>h.elim
theorem SY {N:Os} (k:N.Started) {f:FuncId} {m:Func} {s:ChangeSpec} {r:Bool} (K:Tryz.prog.funcs[f]? = some m) (n:Tryz.prog.inits.idxOf? f=none)
  (o:(m.params.toList.all λt=>Tryz.prog.readableRec t&&decide (t<Tryz.prog.types.size))=true) (A:m.resultTypes = #[4]) (g:s.vars=[])
  (u:∀a:List (DataW H),a.length=m.params.toList.length->s.fn H a={results:=[.lit (.bool true)],args:=a})
  (l:∃(w:World) (b:Tape) (i:Input),w.os=N/\(w.forCall b i).Shaped Tryz.prog/\i.vars=[]/\Input.okWide Tryz.prog (w.forCall b i) .any w.heap.size f i/\
   s.pre6 enc Tryz.prog m [] false (w.forCall b i).memory i.args/\({}:Assume).holds Tryz.prog (lone (Frame.enter Tryz.prog f i.args .normal) [] (w.forCall b i)))
  (D:∀(W:World) (c:Nat) (args:Array V0) (a:List (DataW H)) (p:List MemPlace),(∀(j:Nat) t v,m.params[j]? = some t->args[j]? = some v->Value.okWide Tryz.prog W .any c t v)->
   DataW.TrodAll enc Tryz.prog W 0 (λ_=>true) true m.params.toList args.toList a p->Calls Tryz.prog f args W λe O=>e = .returned (.bool true)/\Nb W O):
  ReturnsInHanded {} Go.Proofs.YtflciafboapaaaaGreat.Tryz.pinned.checked N f .any (s.pre6 enc Tryz.prog m [] false) (s.post enc Tryz.prog m false r false false):=by
 refine returnsInHanded_of_change (C:=Go.Proofs.YtflciafboapaaaaGreat.Tryz.pinned.checked) ahA k n K l ?_;intro W c args a U F B I _ _;have L:=I.lt;have J:=I;obtain⟨p,q,G,Q,rfl,_,_⟩:=I;rw[g]at Q;obtain⟨rfl,rfl⟩:=trodVars_none Q;refine(D W c args a p B G).mono ?_;rintro e O ⟨rfl,R⟩;refine⟨_,rfl,?_⟩
 have z:a.length=m.params.toList.length:=by
  have:∀(E:List TypeId) (y:List V0) (a:List (DataW H)) (p:List MemPlace),DataW.TrodAll enc Tryz.prog W 0 (λ_=>true) true E y a p->a.length=E.length:=by
   intro E
   induction E with
   |nil=>intro y a p h;cases y<;>cases a<;>first|rfl|exact h.elim
   | cons t E ih =>
    intro y a p h;cases y with
    |nil=>exact h.elim
    |cons v y=>
     cases a with
     |nil=>exact h.elim
     |cons d a=>obtain⟨_,_,_,S,_⟩:=h;simp[ih y a _ S]
  exact this _ _ _ _ G
 have M:s.fn H (a++[])={results:=[.lit (.bool true)],args:=a}:=by rw[List.append_nil];exact u a z
 refine⟨a,[],p++[],[],p,[],J,?_,?_,?_,R.frame _,λh=>by cases h⟩
 ·rw[M,A];exact trodAll_mk1 (shut_bool Tryz.underlying4 true)
 ·rw[M];exact Hz afa R _ _ _ _ o G (λx T=>L x (List.mem_append_left _ T))
 rw[M,g];exact rfl
theorem Lr {f:FuncId} {a:Array V0} {L:List bH} {W:World} (h:bD Tryz.prog f a L (λ_:Unit=> .bool true) (λ_ l=>l) (λ_ l=>l)) (c:∀g∈L,g.p W (λ_=>True)):
  Calls Tryz.prog f a W λe b=>e = .returned (.bool true)/\Nb W b:=
 (h W (λ_=>True) c).mono λ_ _ ⟨_,d,i⟩=>⟨d,i.old.ext⟩
variable {w:World} {base:Nat} {spare:Nat->Bool} {held:Bool}
theorem Vn {A:Addr} {k:Nat} {a:List V0} (h:w.cells? base A k=some a):a.length=k/\∀(j:Nat) (u:V0),a[j]? = some u->w.cell? (A.add j)=some u:=by
 obtain⟨_,c,d⟩:=World.cells?_some h;refine⟨c,λj u b=>?_⟩
 have e:=bK b;rw[d j (by omega)];exact b
theorem vF {B:Type} (r:eJ B) {t e:TypeId} (ht:P.underlying t=some (.slice e)) (X:P.cellsOf e=r.sz)
  (F:∀(n:Nat) (N:List V0) (x:DataW H×List MemPlace),DataW.trod enc P w base spare held n e N=some x->∃y:B,r.R w (λ_=>True) N y)
  {U:Nat} {v:V0} {x:DataW H×List MemPlace} (h:DataW.trod enc P w base spare held U t [v]=some x):∃d:List B,FC r w (λ_=>True) v d:=by
 rcases Deep.open_slice ht h with⟨L,_⟩|⟨a,f,o,m,n,D,Pl,L,hb,hl,hm,I,_,hx⟩
 ·cases L;exact⟨[],none,0,rfl,by simp,.inl Z⟩
 cases L;have Y:f<=m:=by rw[I];split<;>omega
 by_cases W:f=0
 ·subst W;exact⟨[],some a,o,rfl,by simp,.inl Z⟩
 -- the elements,chosen one by one
 have M:∀k,k<=f->∃d:List B,d.length=k/\∀i y,d[i]? = some y->∃g,(∀(j:Nat) (u:V0),g[j]? = some u->w.cell? ((a.add (i*P.cellsOf e)).add j)=some u)/\r.R w (λ_=>True) g y:=by
  intro k
  induction k with
  |zero=>exact λ_=>⟨[],rfl,λi y q=>by simp at q⟩
  | succ k ih =>
   intro hk;obtain⟨d,z,A⟩:=ih (by omega);obtain⟨p,C,K⟩:=hx k (by omega);obtain⟨y,q⟩:=F n p _ K;refine⟨d++[y],by simp[z],λi y' l=>?_⟩
   by_cases S:i<d.length
   ·rw[zAc S]at l;exact A i y' l
   have G:i=k:=by
    have:=bK l;simp at this;omega
   subst G;rw[zAb (by omega),z,Nat.sub_self]at l;simp at l;subst l;exact⟨p,(Vn C).2,q⟩
 obtain⟨d,z,A⟩:=M f (zAe _);have c:a.spot=none:=by
  obtain⟨g,E,J⟩:=A 0 (d[0]'(by omega)) (zA2 _);have O:=r.len J;have Q:=r.pos;have:=E 0 (g[0]'(by omega)) (zA2 _);rw[Nat.zero_mul]at this;have T:(a.add 0).add 0=a:=rfl;rw[T]at this;unfold World.cell? at this;split at this
  ·split at this
   ·cases this
   rename_i V;simpa using V
  cases this
 obtain⟨b,s,sp⟩:=a;simp only at c;subst c;refine⟨d,some ⟨b,s,none⟩,o,by rw[z],?_,.inr ⟨b,s,rfl,trivial,λi y q=>?_⟩⟩
 ·have:maxLen=9223372036854775807:=rfl;exact⟨by omega,by omega⟩
 obtain⟨g,E,J⟩:=A i y q;refine⟨g,λj u hu=>?_,J⟩
 have:=E j u hu;rw[fF,fF,X]at this;rwa[Nat.add_assoc]at this
theorem HJ {k:IntKind} {e:TypeId} (b:P.underlying e=some (.int k)) (n:Nat) (a:List V0) (x:DataW H×List MemPlace) (h:DataW.trod enc P w base spare held n e a=some x):∃y:Int,(eJ.int k).R w (λ_=>True) a y:=by
 obtain⟨y,c,_,_⟩:=DataW.trod_int b h;exact⟨y,c⟩
end
end Go.Sx
end
namespace Go.Sx
open Go.RowKit
def ck {a:Type} (p:Prop) [Decidable p] (x:Option a):Option a:=if p then x else none
theorem OF {b:Type} {p:Prop} [Decidable p] {x:Option b} {r:b} (h:ck p x=some r):p/\x=some r:=by
 unfold ck at h;by_cases a:p
 ·rw[if_pos a]at h;exact⟨a,h⟩
 ·rw[if_neg a]at h;cases h
theorem Iv {a:Type} {p:Prop} [Decidable p] {x y:Option a} {r:a} (b:p) (h:(if p then x else y)=some r):x=some r:=by rwa[if_pos b]at h
theorem XT {a:Type} {p:Prop} [Decidable p] {x y:Option a} {r:a} (b:¬p) (h:(if p then x else y)=some r):y=some r:=by rwa[if_neg b]at h
theorem FA {a:Type} {b:Bool} {x y:Option a} {r:a} (c:b=false) (h:(if b=true then x else y)=some r):y=some r:=by
 rwa[if_neg (by simp[c])]at h
theorem bnd {a b:Type} {x:Option a} {f:a->Option b} {r:b} (h:x.bind f=some r):∃y,x=some y/\f y=some r:=Option.bind_eq_some_iff.1 h
def bJ {X R:Type} (step:X->(X->Option R)->Option R):Nat->X->Option R
 |0,_=>none
 |k+1,x=>step x (bJ step k)
def aF (M L:List bH) (g:bH):Prop:=∀(w:World) (S:Nat->Prop) (T:Nat->Nat->Prop) (U:Nat->Prop),(∀f∈L,f.p w S)->(∀(i:Nat) (m:bH),M[i]? = some m->m.p w (T i))->(∀k,S k->U k)->(∀i k,T i k->U k)->g.p w U
section
variable {M L:List bH} {α β:Type} {e:bM α} {r:eJ α} {v:V0}
theorem bH.wide {f:bH} {w:World} {S U:Nat->Prop} (h:f.p w S) (a:∀k,S k->U k):f.p w U:=f.mono h λk b _=>⟨a k b,rfl⟩
theorem aF.fact {g:bH} (j:Nat) (h:L[j]? = some g):aF M L g:=λ_ _ _ _ a _ b _=>bH.wide (a g (zA0 h)) b
theorem aF.res {m:bH} (i:Nat) (h:M[i]? = some m):aF M L m:=λ_ _ _ _ _ a _ b=>bH.wide (a i m h) (b i)
theorem aF.mono {f g:bH} (h:aF M L f) (a:∀{w U},f.p w U->g.p w U):aF M L g:=λw S T U b c d i=>a (h w S T U b c d i)
theorem cB {b:List α} (h:aF M L (Ar e v b)) (a:e.Fits r):aF M L (Sl r v b):=h.mono λh=>AV.sl a h
def Sn {β:Type} (r:eJ α) (b:α->β) (v:V0) (a:List α) (c:List β):bH where
 p w S:=FC r w S v a/\a.map b=c
 mono:=λh e=>⟨h.1.mono e,h.2⟩
abbrev S2 (r:eJ α) (v:V0) (b:List (V0×List α)) (a:List (List α)):bH:=Sn (eJ.sl r) (λz=>z.2) v b a
theorem aF.sl {b:α->β} {a:List α} {c:List β} (h:aF M L (Sn r b v a c)):aF M L (Sl r v a):=h.mono λh=>h.1
theorem TJ [Inhabited α] [Inhabited β] (f:α->β) {a:List α} {i:Int} (c:0<=i) (d:i<a.length):at' (a.map f) i=f (at' a i):=by
 have h:=cX c d;have b:=cX (xs:=a.map f) c (by simpa using d);rw[List.getElem?_map,h]at b;simpa using b.symm
theorem zBh {b:List (V0×List α)} {a:List (List α)} {i:Int} (h:aF M L (S2 r v b a)) (c:0<=i) (d:i<a.length):aF M L (Sl r (at' b i).1 (at' a i)):=h.mono λ{w U} h=>by
 obtain⟨h,f⟩:=h;have g:i<b.length:=by rw[<-f]at d;simpa using d
 obtain⟨k,j,_⟩:=sl_cell h (cX c g);rw[<-f,TJ _ c g];exact j.2
theorem fP {i j:Nat} {vs:List V0} {a:List (List α)} (l:M[i]? = some (Ar bM.raw v vs)) (m:M[j]? = some (gN e vs a)) (b:e.Fits r):aF M L (S2 r v (vs.zip a) a):=λw S T U o c p f=>by
 have g:=c i _ l;have d:=c j _ m;refine⟨(abv b g d).mono λk n _=>⟨?_,rfl⟩,?_⟩
 ·rcases n with h|h
  ·exact f i k h
  ·exact f j k h
 ·rw[List.map_snd_zip];obtain⟨q,_⟩:=d;omega
theorem aF.row {j:Nat} {vs:List V0} {a:List (List α)} {k:Int} (m:M[j]? = some (gN e vs a)) (b:e.Fits r) (c:0<=k) (h:k<a.length):aF M L (Sl r (at' vs k) (at' a k)):=λw S T U o i p l=>by
 have d:=i j _ m;have s:=d.1;obtain⟨_,G,f,g,_⟩:=d;exact(AV.sl b (f k.toNat _ _ (cX c (by omega)) (cX c h))).mono λq n _=>⟨l j q (g _ q n),rfl⟩
theorem aF.st {c:yO} {w:World} {g:bH} (h:aF M L g) (t:St c M L w):∃S,g.p w S:=by
 obtain⟨_,F,a,b⟩:=t;exact⟨λ_=>True,h w (Dy c F) F (λ_=>True) b a.res (λ_ _=>trivial) (λ_ _ _=>trivial)⟩
end
section
variable {P:Program} {rd:Option Nat} {c:yO} {n:Sz} {σ:Fr} {M L:List bH} {Q:Exit->Act->World->Prop} {ops:Array Oper} {rest:List Oper}
variable {d:Option Tmp} {D:Nat} {ty:TypeId} {pos:String} {aft:Array Edge} {g:Option (Nat×Bool)}
variable {α β:Type} {e:bM α} {r:eJ α}
theorem fE [d_ P] {T E:TypeId} {l m:Nat} {z:V0} {x:Operand} {v:V0} {b:List α} (k:ev σ x=some v) (i:aF M L (Sl r v b))
  (h:d_.tab P T=some ⟨.slice E,l,m,z⟩):Y P c n σ M L ⟨d,.call ⟨.builtin .len,#[x],#[T]⟩,ty,pos,aft,g⟩ (.int .i64 b.length):=λa w s t=>by
 obtain⟨S,o,f,j,_,_⟩:=i.st t;subst j;simp[execOp,resolve,invoke,builtin,s.eval k,Pk w (d_.ok h) Z]
theorem dU [d_ P] {T E:TypeId} {l m:Nat} {z:V0} {x:Operand} {v:V0} {i:α->β} {o:List α} {f:List β} (k:ev σ x=some v) (b:aF M L (Sn r i v o f))
  (j:d_.tab P T=some ⟨.slice E,l,m,z⟩):Y P c n σ M L ⟨d,.call ⟨.builtin .len,#[x],#[T]⟩,ty,pos,aft,g⟩ (.int .i64 f.length):=λa w s t=>by
 obtain⟨_,_,h⟩:=b.st t;rw[<-h,List.length_map];exact fE k b.sl j a w s t
theorem bE [d_ P] {T E:TypeId} {G H l I:Nat} {z J:V0} {o:TypeDesc} {x y:Operand} {v:V0} {i:Int} {m:List α} (C:ev σ x=some v) (F:ev σ y=some (.int .i64 i)) (A:aF M L (Sl r v m))
  (u:d_.tab P T=some ⟨.slice E,G,H,z⟩) (q:d_.tab P E=some ⟨o,l,I,J⟩) (h:0<=i/\i<m.length):
  Y P c n σ M L ⟨d,.indexAddr T x y,ty,pos,aft,g⟩ (EL v (i.toNat*l)):=λa w s t=>by
 obtain⟨p,k⟩:=h;obtain⟨S,K,f,B,_,h⟩:=A.st t;rcases h with h|⟨b,j,rfl,_,_⟩
 ·subst h;simp at k;omega
 ·subst B;simp[execOp,s.eval C,s.eval F,JC w (d_.ok u) Z (d_.ok q) b j _ f i p k]
theorem Sn.len {w:World} {S:Nat->Prop} {v:V0} {b:α->β} {a:List α} {xs:List β} (h:(Sn r b v a xs).p w S):a.length=xs.length:=by rw[<-h.2];simp
theorem bN [d_ P] {T E:TypeId} {A B f C:Nat} {z F:V0} {k:TypeDesc} {x y:Operand} {v:V0} {i:Int} {l:α->β} {G:List α} {j:List β} (q:ev σ x=some v) (u:ev σ y=some (.int .i64 i)) (b:aF M L (Sn r l v G j))
  (p:d_.tab P T=some ⟨.slice E,A,B,z⟩) (o:d_.tab P E=some ⟨k,f,C,F⟩) (h:0<=i/\i<j.length):
  Y P c n σ M L ⟨d,.indexAddr T x y,ty,pos,aft,g⟩ (EL v (i.toNat*f)):=λa w s t=>by
 obtain⟨_,m⟩:=b.st t;exact bE q u b.sl p o (by rw[Sn.len m];exact h) a w s t
theorem eL [d_ P] [Inhabited α] {T:TypeId} {F G q o:Nat} {z:V0} {k:TypeDesc} {x:Operand} {v:V0} {i:Int} {j:List α} {f:α->V0} (E:ev σ x=some (EL v (i.toNat*q+o))) (A:aF M L (Sl r v j))
  (p:d_.tab P T=some ⟨k,F,G,z⟩) (y:Bb k=false) (C:r.sz=q) (u:r.Cell o f) (h:0<=i/\i<j.length):
  Y P c n σ M L ⟨d,.load T x,ty,pos,aft,g⟩ (f (at' j i)):=λa w s t=>by
 obtain⟨l,m⟩:=h;obtain⟨S,h⟩:=A.st t;obtain⟨H,B,b⟩:=sl_cell h (cX l m);have:=b o _ (u B);rw[C]at this;simp[execOp,s.eval E,EL,CL (d_.ok p) y this]
theorem cK [d_ P] [Inhabited α] {T:TypeId} {t u q:Nat} {z:V0} {b:TypeDesc} {x:Operand} {v:V0} {i:Int} {a:List α} {f:α->V0} (s:ev σ x=some (EL v (i.toNat*q))) (m:aF M L (Sl r v a))
  (j:d_.tab P T=some ⟨b,t,u,z⟩) (l:Bb b=false) (p:r.sz=q) (k:r.Cell 0 f) (h:0<=i/\i<a.length):
  Y P c n σ M L ⟨d,.load T x,ty,pos,aft,g⟩ (f (at' a i)):=eL (o:=0) s m j l p k h
theorem bT [d_ P] {T:TypeId} {u y:Nat} {z:V0} {j:TypeDesc} {x:Operand} {v:V0} {i:Int} {l:List (V0×List α)} {b:List (List α)} (q:ev σ x=some (EL v (i.toNat*1))) (k:aF M L (S2 r v l b))
  (o:d_.tab P T=some ⟨j,u,y,z⟩) (p:Bb j=false) (h:0<=i/\i<b.length):
  Y P c n σ M L ⟨d,.load T x,ty,pos,aft,g⟩ (at' l i).1:=λa w s t=>by
 obtain⟨_,m⟩:=k.st t;exact cK (r:=eJ.sl r) (f:=λz=>z.1) q k.sl o p Z (eJ.sl_cell r) (by rw[Sn.len m];exact h) a w s t
theorem gW [d_ P] (j:Nat) {T:TypeId} {o:Nat} {z:V0} {a:TypeDesc} {x:Operand} {v:V0} {i:Int} {vs:List V0} {m:Nat} (l:ev σ x=some (EL v (i.toNat*1))) (k:M[j]? = some (Ar bM.raw v vs)) (p:vs.length=m)
  (b:d_.tab P T=some ⟨a,1,o,z⟩) (f:Bb a=false) (h:0<=i/\i<m):
  Y P c n σ M L ⟨d,.load T x,ty,pos,aft,g⟩ (at' vs i):=WG j l k b f Z Z h.1 (by omega)
theorem gU [d_ P] [Inhabited α] {T:TypeId} {K q:Nat} {z:V0} {o:TypeDesc} {x:Operand} {v:V0} {i:Int} {k:List α} {cs:List V0} (J:ev σ x=some (EL v (i.toNat*q))) (F:aF M L (Sl r v k)) (f:e.Fits r) (l:e.enc (at' k i)=cs)
  (B:d_.tab P T=some ⟨o,cs.length,K,z⟩) (C:Bb o=true) (G:e.sz=q) (h:0<=i/\i<k.length):Y P c n σ M L ⟨d,.load T x,ty,pos,aft,g⟩ (.agg cs.toArray):=λa w s t=>by
 obtain⟨p,y⟩:=h;obtain⟨S,h⟩:=F.st t;obtain⟨N,H,b⟩:=sl_cell h (cX p y);obtain⟨m,E,_,_⟩:=f;have:=E H;subst this l;rw[m,G]at b;have:=BX (w:=w) (A:=Kr v (i.toNat*q)) (cs:=e.enc (at' k i)) (d_.ok B) C Z (λj u I=>by rw[KL];exact b j u I);simp[execOp,s.eval J,EL,this]
def aI (M L a:List bH):Prop:=∀f∈a,aF M L f
theorem aI.nil:aI M L []:=λ_ h=>by simp at h
theorem aI.cons {f:bH} {b:List bH} (h:aF M L f) (k:aI M L b):aI M L (f::b):=λx a=>by
 rcases zAm.1 a with rfl|a
 ·exact h
 ·exact k x a
theorem Qf {w i:World} {b:List bH} {F:Nat->Nat->Prop} {U:Nat->Prop} (o:Eb c.O c.w0 w) (k:Own c w M F) (l:∀f∈L,f.p w (Dy c F))
  (t:St ⟨w,U,λ_=>False⟩ b [] i):St c (b++M) L i:=by
 obtain⟨h,j,a,_⟩:=t;have q:St ⟨w,Dy c F,λ_=>False⟩ b [] i:=⟨h,j,⟨a.res,a.rng,a.dis⟩,λf m=>by simp at m⟩
 exact St.call o k l q
theorem Sb {A:Type} {j:A->V0} {k:A->List bH->List bH} {f:FuncId} {p:List Operand} {o:List V0} {b:Array TypeId} {q:List bH} (y:bB P f)
  (C:bD P f o.toArray q j k (λ_ l=>l)) (G:p.map (ev σ)=o.map some) (v:aI M L q) (m:∀x l,k x l=k x []++l):
  aP P c n σ M L ⟨d,.call ⟨.value (.func f),p.toArray,b⟩,ty,pos,aft,g⟩ j (λx=>k x M) (λ_=>L):=λa w s t=>by
 have i:(execOp a.eval ⟨d,.call ⟨.value (.func f),p.toArray,b⟩,ty,pos,aft,g⟩).run P w = .ok (.enter f o.toArray) w:=by
  have e:=evs s G;simp[execOp,resolve,Act.eval,Deferred.ofValue,invoke,y _ w,e]
 simp only[Oper.wp,i,Oper.upon];obtain⟨B,F,u,h⟩:=t;refine(C w (λ_=>True) (λf z=>v f z w (Dy c F) F _ h u.res (λ_ _=>trivial) (λ_ _ _=>trivial))).mono ?_;rintro e H ⟨x,rfl,E⟩;refine⟨x,rfl,?_⟩
 rw[m];exact Qf B u h E
theorem yH {A:Type} {j:A->V0} {k:A->List bH->List bH} {f:FuncId} {t:Tmp} {p:List Operand} {vs cs:List V0} {b:Array TypeId} {q:List bH} (z:bB P f)
  (o:lk σ t=some (.func (.func f) #[] cs.toArray)) (E:bD P f (vs++cs).toArray q j k (λ_ l=>l)) (G:p.map (ev σ)=vs.map some) (y:aI M L q) (m:∀x l,k x l=k x []++l):
  aP P c n σ M L ⟨d,.call ⟨.value (.tmp t),p.toArray,b⟩,ty,pos,aft,g⟩ j (λx=>k x M) (λ_=>L):=λa w s H=>by
 have i:(execOp a.eval ⟨d,.call ⟨.value (.tmp t),p.toArray,b⟩,ty,pos,aft,g⟩).run P w = .ok (.enter f (vs++cs).toArray) w:=by
  have e:=evs s G;have v:a.eval (.tmp t) = .func (.func f) #[] cs.toArray:=s.eval (x:= .tmp t) o;simp[execOp,resolve,v,Deferred.ofValue,invoke,z _ w,e]
 simp only[Oper.wp,i,Oper.upon];obtain⟨C,F,u,h⟩:=H;refine(E w (λ_=>True) (λf B=>y f B w (Dy c F) F _ h u.res (λ_ _=>trivial) (λ_ _ _=>trivial))).mono ?_;rintro e I ⟨x,rfl,o⟩;refine⟨x,rfl,?_⟩
 rw[m];exact Qf C u h o
theorem dN [d_ P] (i:Nat) {r:eJ α} (b:e.Fits r) {x y:Operand} {v u:V0} {h j:List α} {T E:TypeId} {W X m k:Nat} {z p:V0} {q:TypeDesc} (S:ev σ x=some v) (U:ev σ y=some u) (J:M[i]? = some (Ar e v h)) (K:aF M L (Sl r u j))
  (o:d_.tab P T=some ⟨.slice E,W,X,z⟩) (G:d_.tab P E=some ⟨q,m,k,p⟩) (B:e.sz=m) (C:Nat.ble k 1024=true) (Y:(h.length:Int)+j.length<=1099511627) (V:p.cells.size=m):
  aP P c n σ M L ⟨d,.call ⟨.builtin .append,#[x,y],#[T,T]⟩,ty,pos,aft,g⟩ (λf:V0=>f) (λf=>M.set i (Ar e f (h++j))) (λ_=>L):=λa w s t=>by
 subst B;obtain⟨F,H⟩:=K.st t;obtain⟨O,A⟩:=Qd b H o;have l:k<=1024:=by simpa using C
 have I:(h.length+j.length)*k<=140737488355328:=zB1 (Nat.mul_le_mul (show h.length+j.length<=1099511627 by omega) l) (by decide);obtain⟨f,w',N,R⟩:=t.append (ty:=ty) J O A o G I (by omega) V;simp only[Oper.wp,AA s S U w,N,Result.andThen_ok,Oper.upon];exact⟨f,rfl,R⟩
theorem St.appendRow [d_ P] {w:World} (t:St c M L w) {i:Nat} {u:V0} {k:Int} {C:List V0} {b:List (List α)} {p:List α} {T E ty:TypeId} {s1 s2 s4:Nat} {z z':V0} {dE:TypeDesc} (hf:M[i]? = some (gN e C b)) (A:Src P e.sz T u p.length (cellsOf e p) w) (x:(cellsOf e p).all one=true)
  (hT:d_.tab P T=some ⟨.slice E,s1,s2,z⟩) (hE:d_.tab P E=some ⟨dE,e.sz,s4,z'⟩) (Y:0<=k) (h1:k<C.length) (hb:((at' b k).length+p.length)*s4<=140737488355328) (hl:(at' b k).length+p.length<=140737488355328) (hz:z'.cells.size=e.sz):
  ∃B N,(Builtin.append_ #[T,T] ty #[at' C k,u]).run P w = .ok B N/\St c (M.set i (gN e (C.set k.toNat B) (b.set k.toNat (at' b k++p)))) L N:=by
 have t0:=t;obtain⟨ho,FF,hO,U⟩:=t0;have hR:=hO.res i _ hf;obtain⟨s,G,X,S,I⟩:=hR;have V:k.toNat<C.length:=by omega
 have y:=X k.toNat _ _ (cX Y h1) (cX Y (by omega));obtain⟨B,N,F',hr,hA,l⟩:=AV.append (ty:=ty) y A x hT hE hb hl hz;refine⟨B,N,hr,?_⟩
 refine Gw ho hO U hf l.os l.tape l.out l.size (λq a hn=>l.same q a (λh=>hn (S _ q h))) (F':=λq=>(F' q)\/∃j,j≠k.toNat/\G j q) ?_ ?_
 ·refine⟨by simp[s],λj q=>(j=k.toNat/\F' q)\/(j≠k.toNat/\G j q/\q<w.heap.size),?_,?_,?_⟩
  ·intro j v2 F m o;by_cases H:j=k.toNat
   ·subst H;rw[zAh V]at m;rw[zAh (by omega)]at o;cases m;cases o;exact bH.same (f:=Ar e B (at' b k++p)) hA (λq a=> .inl ⟨rfl,a⟩) (λ_ _ _=>rfl)
   ·rw[zAq (Ne.symm H)]at m o;exact(Ar e v2 F).mono (X j v2 F m o) (λq a v=>⟨.inr ⟨H,a,v⟩,l.same q v (λh=>H (I _ _ q a h))⟩)
  ·rintro j q (⟨_,a⟩|⟨W,a,_⟩)
   ·exact .inl a
   ·exact .inr ⟨j,W,a⟩
  ·rintro j1 j2 q (⟨O,J⟩|⟨O,J,l1⟩) (⟨R,K⟩|⟨R,K,l2⟩)
   ·rw[O,R]
   ·rcases l.sub q J with h|⟨h,_⟩
    ·exact absurd (I _ _ q K h) R
    ·omega
   ·rcases l.sub q K with h|⟨h,_⟩
    ·exact absurd (I _ _ q J h) O
    ·omega
   ·exact I _ _ q J K
 ·rintro q (a|⟨j,_,a⟩)
  ·rcases l.sub q a with h|h
   ·exact .inl (S _ q h)
   ·exact .inr h
  ·exact .inl (S _ q a)
theorem sG [d_ P] (i:Nat) {r:eJ α} (b:e.Fits r) {x y:Operand} {u:V0} {k:Int} {vs:List V0} {xss:List (List α)} {ys:List α} {T E:TypeId} {X Y m j:Nat} {z v:V0} {A:TypeDesc} (U:ev σ x=some (at' vs k)) (V:ev σ y=some u) (p:M[i]? = some (gN e vs xss)) (N:aF M L (Sl r u ys))
  (o:d_.tab P T=some ⟨.slice E,X,Y,z⟩) (I:d_.tab P E=some ⟨A,m,j,v⟩) (G:e.sz=m) (H:Nat.ble j 1024=true) (B:0<=k/\k<xss.length) (hl:((at' xss k).length:Int)+ys.length<=1099511627) (W:v.cells.size=m):
  aP P c n σ M L ⟨d,.call ⟨.builtin .append,#[x,y],#[T,T]⟩,ty,pos,aft,g⟩ (λf:V0=>f) (λf=>M.set i (gN e (vs.set k.toNat f) (xss.set k.toNat (at' xss k++ys)))) (λ_=>L):=λa w s t=>by
 subst G;obtain⟨F,J⟩:=N.st t;obtain⟨R,C⟩:=Qd b J o;have l:j<=1024:=by simpa using H
 have K:((at' xss k).length+ys.length)*j<=140737488355328:=zB1 (Nat.mul_le_mul (show(at' xss k).length+ys.length<=1099511627 by omega) l) (by decide);have q:vs.length=xss.length:=by obtain⟨_,h⟩:=t.res p;exact h.1
 obtain⟨f,w',O,S⟩:=t.appendRow (ty:=ty) p R C o I B.1 (by omega) K (by omega) W;simp only[Oper.wp,AA s U V w,O,Result.andThen_ok,Oper.upon];exact⟨f,rfl,S⟩
end
section
variable {P:Program} {rd:Option Nat} {c:yO} {n:Sz} {σ:Fr} {M L M' L':List bH} {Q:Exit->Act->World->Prop} {ops:Array Oper} {rest:List Oper} {K:Act->World->Prop}
variable {d:Option Tmp} {D:Nat} {ty:TypeId} {pos:String} {aft:Array Edge} {g:Option (Nat×Bool)}
variable {α β:Type} {e:bM α} {r:eJ α}
theorem St.weakE {w:World} (h:St c M L w) (j:aZ M M') (i:aI [] L L'):St c M' L' w:=by
 obtain⟨l,F,b,k⟩:=h.weak (L':=L) j (λ_ h=>h);exact⟨l,F,b,λf a=>i f a w (Dy c F) (λ_ _=>False) (Dy c F) k (λ_ _ h=>by simp at h) (λ_ h=>h) (λ_ _ h=>h.elim)⟩
theorem aI.refl (M L:List bH):aI M L L:=λf a=>by
 obtain⟨j,b⟩:=List.getElem?_of_mem a;exact aF.fact j b
def WA {A B:Type} (c:yO) (n:Sz) (C:A->Prop) (b:A->B->Fr) (h f:A->B->List bH) (a:Act) (w:World):Prop:=∃x y,C x/\I_ n (b x y) a/\St c (h x y) (f x y) w
theorem kU {A B:Type} {x:Code} (C:A->Prop) (f:A->B->Fr) (i h:A->B->List bH) (k:J c n σ M L (x.wpr rd P (Exit.then (WA c n C f i h) Q))) (m:∀a b,C a->J c n (f a b) (i a b) (h a b) K):
  J c n σ M L (x.wpr rd P (Exit.then K Q)):=λa w s t=>My (λe j v q=>by
 cases e with
 |normal=>obtain⟨z,y,o,p,u⟩:=q;exact m z y o j v p u
 |exit id=>exact q
 |goto l=>exact q
 |ret=>exact q
 |panic E=>exact q
 |outgrown=>exact q) (k a w s t)
theorem cI {A B:Type} {C:A->Prop} {a:A->B->Fr} {f b:A->B->List bH} (x:A) (y:B) (h:C x) (k:Cb σ (a x y)) (j:aZ M (f x y)) (i:aI [] L (b x y)):J c n σ M L (WA c n C a f b):=
 λ_ _ s t=>⟨x,y,h,s.weak k,t.weakE j i⟩
def ZC {A B R:Type} (c:yO) (n:Sz) (b:A->(A->Option R)->Option R) (r:R) (f:A->B->Fr) (i h:A->B->List bH) (k:Nat) (a:Act) (w:World):Prop:=
 ∃x y,bJ b k x=some r/\I_ n (f x y) a/\St c (i x y) (h x y) w
theorem oS {A B R:Type} {j:Code} (f:A->(A->Option R)->Option R) {r:R} {m:Nat} (i:A->B->Fr) (v u:A->B->List bH) (p:A) (z:B) (h:bJ f m p=some r)
  (N:Cb σ (i p z)) (I:aZ M (v p z)) (H:aI [] L (u p z))
  (o:∀k a b,f a (bJ f k)=some r->J c n (i a b) (v a b) (u a b) (j.wpr rd P (Exit.then (ZC c n f r i v u k) Q))):J c n σ M L ((Code.loop j).wpr rd P Q):=by
 intro a w s t;refine Wr (X:=Nat×A×B) (λx=>bJ f x.1 x.2.1=some r) (λx=>i x.2.1 x.2.2) (λx=>v x.2.1 x.2.2) (λx=>u x.2.1 x.2.2) (λx=>x.1) (m,p,z) h (Cb.refl _) (aZ.refl _) (λ_ h=>h) ?_ a w (s.weak N) (t.weakE I H);rintro⟨k,x,y⟩ G;cases k with
 |zero=>cases G
 |succ k=>
  refine Ws (o k x y G) λa w h=>My (λe T V q=> ?_) h;cases e with
  |normal=>obtain⟨O,S,C,E,F⟩:=q;exact⟨(k,O,S),C,Nat.lt_succ_self k,E,F⟩
  |exit id=>exact q
  |goto l=>exact q
  |ret=>exact q
  |panic U=>exact q
  |outgrown=>exact q
theorem iG {A B R:Type} {a:A->(A->Option R)->Option R} {r:R} {k:Nat} {b:A->B->Fr} {i f:A->B->List bH} (x:A) (y:B) (h:bJ a k x=some r) (m:Cb σ (b x y)) (l:aZ M (i x y)) (j:aI [] L (f x y)):
  J c n σ M L (ZC c n a r b i f k):=λ_ _ s t=>⟨x,y,h,s.weak m,t.weakE l j⟩
variable {l:List Oper} {m:List Nat} {k0:Nat} {H Bs:List (Nat×List bH×List bH)} {rs:List Nat}
theorem aY {i f:Nat} {j:Op} {v:V0} {b a:List bH} (s:l[i]? = some ⟨some f,j,ty,pos,aft,none⟩) (p:aZ M b) (o:iC L a)
  (w:Y P c n σ b a ⟨some f,j,ty,pos,aft,none⟩ v) (k:aJ (before m i) b a H)
  (h:JR c n ((f,v)::σ) M L H ((i,b,a)::Bs) (RW P l.toArray Q (before m) (eK l) k0 rs))
  (t:Nat.blt i k0=true:=by exact rfl) (u:fS j=false:=by exact rfl) (q:Nat.blt f n.sz=true:=by exact rfl):JR c n σ M L H Bs (RW P l.toArray Q (before m) (eK l) k0 (i::rs)):=
 JR.quiet b a s t u w ⟨p,o⟩ k q h
theorem cS {i k:Nat} {o:Op} {v:V0} {j:Nat} {b:Bool} {f a:List bH} (w:l[i]? = some ⟨some k,o,ty,pos,aft,some (j,b)⟩) (s:aZ M f) (q:iC L a)
  (z:Y P c n σ f a ⟨some k,o,ty,pos,aft,some (j,b)⟩ v) (p:aJ (before m i) f a H)
  (h:JR c n ((k,v)::σ) M L H ((i,f,a)::Bs) (RW P l.toArray Q (before m) (eK l) k0 rs))
  (x:Nat.blt i k0=true:=by exact rfl) (y:fS o=false:=by exact rfl) (u:gv l.toArray σ j=some b:=by exact rfl) (t:Nat.blt k n.sz=true:=by exact rfl):JR c n σ M L H Bs (RW P l.toArray Q (before m) (eK l) k0 (i::rs)):=
 UZ f a w x y u z ⟨s,q⟩ p t h
def IJ (b:Array V0):ResultVar->Sem V0
 | .tmp t=>pure (b.getD t undef)
 | .cell a t=>do loadVar t (<-asAddr (b.getD a undef))
theorem CW (b:Func) (a:Array V0):results b a=(do let vs <-b.results.mapM (IJ a);pure (if h:vs.size=1 then vs[0]else .tuple vs)):=rfl
def RV (P:Program) (c:yO) (n:Sz) (σ:Fr) (M L:List bH) (b:ResultVar) (v:V0):Prop:=∀a w,I_ n σ a->St c M L w->(IJ a.tmps b).run P w = .ok v w
theorem RV.tmp {t:Tmp} {v:V0} (h:lk σ t=some v):RV P c n σ M L (.tmp t) v:=λa w s _=>by simp[IJ,s.slot t v h]
theorem RV.cell [d_ P] (i:Nat) {q:Tmp} {T h:TypeId} {v:Nat} {z:V0} {f:TypeDesc} {b:Nat} {cs:List V0} (u:lk σ q=some (.pointer (some ⟨b,0,none⟩))) (j:M[i]? = some (bL b cs h)) (o:d_.tab P T=some ⟨f,cs.length,v,z⟩) (p:Bb f=true):
  RV P c n σ M L (.cell q T) (.agg cs.toArray):=λa w s t=>by
 obtain⟨F,k⟩:=t.res j;simp[IJ,s.slot q _ u,asAddr,YD k o p]
variable {A:Type} {ret:A->V0} {MO LO:A->List bH->List bH} {fn:Func}
theorem KD (x:A) (p:ret x = .tuple #[]) (b:fn.results = #[]) (f:Exit) (o:f = .ret\/f = .normal) (k:aZ M (MO x [])) (j:aI [] L (LO x [])) (i:n.ds=[]:=by rfl):J c n σ M L (pN P fn (Qa c ret MO LO) f):=λa w s t=>
 acx x f o (λa w s t=>by simp[results,b,p]) k (λ_ h=>h) i a w s (t.weakE (aZ.refl _) j)
theorem iS (x:A) {h:ResultVar} {i:V0} (q:ret x=i) (b:fn.results = #[h]) (j:RV P c n σ M L h i) (o:aZ M (MO x [])) (k:aI [] L (LO x [])) (f:n.ds=[]:=by rfl):J c n σ M L (pN P fn (Qa c ret MO LO) .ret):=λa w s t=>by
 have p:(results fn a.tmps).run P w = .ok (ret x) w:=by
  have:=j a w s t;simp only[CW,b];simp[q,this]
 exact body_end (.inl Z) (s.defers.trans f) p ⟨x,rfl,t.weakE o k⟩
theorem hZ (x:A) {j k:ResultVar} {o p:V0} (y:ret x = .tuple #[o,p]) (b:fn.results = #[j,k]) (f:RV P c n σ M L j o) (h:RV P c n σ M L k p) (u:aZ M (MO x [])) (q:aI [] L (LO x [])) (i:n.ds=[]:=by rfl):J c n σ M L (pN P fn (Qa c ret MO LO) .ret):=λa w s t=>by
 have v:(results fn a.tmps).run P w = .ok (ret x) w:=by
  have f:=f a w s t;have h:=h a w s t;simp only[CW,b];simp[y,f,h]
 exact body_end (.inl Z) (s.defers.trans i) v ⟨x,rfl,t.weakE u q⟩
def wI:IntKind->Int->Int
 | .i64,x=>if -9223372036854775808<=x/\x<=9223372036854775807 then x else IntKind.i64.wrap x
 | .u32,x=>if 0<=x/\x<=4294967295 then x else IntKind.u32.wrap x
 |k,x=>k.wrap x
theorem RG (k:IntKind) (x:Int):wI k x=k.wrap x:=by
 unfold wI;split
 ·split
  ·rename_i h;exact(Oe h.1 h.2).symm
  ·rfl
 ·split
  ·rename_i h;unfold IntKind.wrap;simp only[IntKind.bits,IntKind.signed];simp;omega
  ·rfl
 ·rfl
theorem yT {t h:TypeId} {x y:Operand} {k:IntKind} {p q:Int} (b:ev σ x=some (.int k p)) (f:ev σ y=some (.int k q)):
  Y P c n σ M L ⟨d,.binOp .add t x y h,ty,pos,aft,g⟩ (.int k (wI k (p+q))):=λa w s _=>by
 simp[RG,execOp,s.eval b,s.eval f,binOp,Op.intArith,pD]
theorem nY {t h:TypeId} {x y:Operand} {k:IntKind} {p q:Int} (b:ev σ x=some (.int k p)) (f:ev σ y=some (.int k q)):
  Y P c n σ M L ⟨d,.binOp .sub t x y h,ty,pos,aft,g⟩ (.int k (wI k (p - q))):=λa w s _=>by
 simp[RG,execOp,s.eval b,s.eval f,binOp,Op.intArith,pD]
theorem wB {t h:TypeId} {x y:Operand} {k:IntKind} {p q:Int} (b:ev σ x=some (.int k p)) (f:ev σ y=some (.int k q)):
  Y P c n σ M L ⟨d,.binOp .mul t x y h,ty,pos,aft,g⟩ (.int k (wI k (p*q))):=λa w s _=>by
 simp[RG,execOp,s.eval b,s.eval f,binOp,Op.intArith,pD]
theorem WI {t i:TypeId} {x y:Operand} {k:IntKind} {p q:Int} (b:ev σ x=some (.int k p)) (f:ev σ y=some (.int k q)) (h:q≠0):
  Y P c n σ M L ⟨d,.binOp .quo t x y i,ty,pos,aft,g⟩ (.int k (wI k (p.tdiv q))):=λa w s _=>by
 simp[RG,execOp,s.eval b,s.eval f,binOp,Op.intDiv,pD,h]
theorem abV {t:TypeId} {x:Operand} {k:IntKind} {p:Int} (b:ev σ x=some (.int k p)):Y P c n σ M L ⟨d,.unOp .neg t x,ty,pos,aft,g⟩ (.int k (wI k (0 - p))):=λa w s _=>by
 simp[RG,execOp,s.eval b,Op.unary,Op.intArith]
theorem abA [d_ P] {t:TypeId} {f h:Nat} {z:V0} (b:d_.tab P t=some ⟨.bool,f,h,z⟩) (p q:Bool) (w:World):(Op.equal t (.bool p) (.bool q)).run P w = .ok (p==q) w:=by
 have a:∀m:Nat,(Op.equalIn (m+1) t (.bool p) (.bool q)).run P w = .ok (p==q) w:=λm=>by simp[Op.equalIn,(d_.ok b).run_und w]
 exact a 9999
theorem WH [d_ P] {t k:TypeId} {x y:Operand} {p q:Bool} {i j:Nat} {z:V0} (f:ev σ x=some (.bool p)) (h:ev σ y=some (.bool q)) (b:d_.tab P t=some ⟨.bool,i,j,z⟩):
  Y P c n σ M L ⟨d,.binOp .neq t x y k,ty,pos,aft,g⟩ (.bool (p != q)):=λa w s _=>by
 simp[execOp,s.eval f,s.eval h,binOp,eqGuard,abA b,bne]
end
def bM.pair {c d:Type} (a:bM c) (b:bM d):bM (c×d):=⟨a.sz+b.sz,zB4 a.pos (Nat.le_add_right _ _),λx=>a.enc x.1++b.enc x.2,λx=>by simp[a.len,b.len]⟩
theorem mD {c d:Type} {a:bM c} {b:bM d} {r:eJ c} {s:eJ d} (h:a.Fits r) (k:b.Fits s):(a.pair b).Fits (r.pair s):=by
 obtain⟨e,f,g,i⟩:=h;obtain⟨j,l,m,n⟩:=k;refine⟨by simp[bM.pair,eJ.pair,e,j],?_,?_,?_⟩
 ·rintro w S u x ⟨q,t,rfl,o,p⟩;rw[f o,l p];rfl
 ·intro w S x;exact⟨_,_,rfl,g,m⟩
 ·intro x;simp only[bM.pair,List.all_append,i,n,Bool.and_self]
section
variable {P:Program} {rd:Option Nat} {c:yO} {n:Sz} {σ:Fr} {M L M' L':List bH} {Q:Exit->Act->World->Prop} {ops:Array Oper} {rest:List Oper} {K:Act->World->Prop}
variable {d:Option Tmp} {D:Nat} {ty:TypeId} {pos:String} {aft:Array Edge} {g:Option (Nat×Bool)}
variable {α β:Type} {e:bM α} {r:eJ α}
theorem PZ {A:Type} {o:Oper} {f:A->V0} {i:List α} (h:aP P c n σ M L o f (λb=>Ar e (f b) i::M) (λ_=>L)):aP P c n σ M L o (λv:V0=>v) (λv=>Ar e v i::M) (λ_=>L):=λa w s t=>
 oH (λ_ _ ⟨x,j,k⟩=>⟨f x,j,k⟩) (h a w s t)
theorem JY (e:bM α) (k:Nat) (x:α):(cellsOf e (List.replicate k x))=(List.replicate k (e.enc x)).flatten:=by
 induction k with
 |zero=>rfl
 |succ k a=>simp only[List.replicate_succ,cellsOf,List.flatMap_cons,List.flatten_cons]at *;rw[a]
theorem Yc (a:List V0) (l:a≠[]) (k:Nat):(madeCells a.toArray (k*a.length)).toList=(List.replicate k a).flatten:=by
 have b:0<a.length:=List.length_pos_iff.2 l;apply List.ext_getElem
 ·simp[madeCells]
 ·intro i m p;have q:i<k*a.length:=by simpa [madeCells]using m
  have o:i%a.length<a.length:=Nat.mod_lt _ b;have j:∀(k i:Nat) (h:i<((List.replicate k a).flatten).length),((List.replicate k a).flatten)[i]=a[i%a.length]'(Nat.mod_lt _ b):=by
   intro k
   induction k with
   |zero=>intro i h;simp at h
   | succ k ih =>
    intro i h;simp only[List.replicate_succ,List.flatten_cons];by_cases f:i<a.length
    ·rw[List.getElem_append_left f];simp[Nat.mod_eq_of_lt f]
    ·rw[List.getElem_append_right (by omega)];rw[ih];congr 1;rw[<-Nat.mod_eq_sub_mod (by omega)]
  rw[j];simp[madeCells,o]
theorem A_ [d_ P] {T E:TypeId} {G H j f:Nat} {z m:V0} {o:TypeDesc} {x:Operand} {k:Int} (a:α)
  (y:d_.tab P T=some ⟨.slice E,G,H,z⟩) (w:d_.tab P E=some ⟨o,j,f,m⟩) (C:ev σ x=some (.int .i64 k)) (s:Nat.ble f 1024=true) (h:0<=k/\k<=1099511627) (q:e.sz=j)
  (F:m.cells=(e.enc a).toArray) (p:(e.enc a).all one=true):
  aP P c n σ M L ⟨d,.makeSlice T x x,ty,pos,aft,g⟩ (λv:V0=>v) (λv=>Ar e v (List.replicate k.toNat a)::M) (λ_=>L):=by
 have t:f<=1024:=by simpa using s
 subst q;have i:e.enc a≠[]:=by
  intro h;have:=e.len a;rw[h]at this;have:=e.pos;simp at *;omega
 refine PZ (aP.makeSlice (List.replicate k.toNat a) y w C h.1 ?_ (by omega) (by simp) ?_ ?_)
 ·have:=Int.mul_le_mul (show(f:Int)<=1024 by omega) h.2 h.1 (by decide);omega
 ·rw[F,JY,<-e.len a];exact Yc _ i _
 ·rw[JY,zA8];intro u B;obtain⟨l,A,b⟩:=List.mem_flatten.1 B;rw[(List.mem_replicate.1 A).2]at b;exact zA8.1 p u b
theorem cM [d_ P] {T E:TypeId} {k x y h A:Nat} {z B:V0} {l:TypeDesc} {j:List (Nat×Operand)} (f:List α) (vs:List (Nat×V0))
  (w:j.map (λp=>(p.1,ev σ p.2))=vs.map (λp=>(p.1,some p.2))) (q:d_.tab P T=some ⟨.slice E,x,y,z⟩) (o:d_.tab P E=some ⟨l,h,A,B⟩) (u:Nat.ble (k*h) 16777216=true)
  (b:∀a:Array V0,a.size=k*h->Instr.fill (λi=>some (i*h,h)) a vs=some (cellsOf e f).toArray)
  (s:f.length=k) (t:Nat.ble f.length 140737488355328=true) (m:(cellsOf e f).all one=true):
  aP P c n σ M L ⟨d,.buildSlice T k j.toArray,ty,pos,aft,g⟩ (λv:V0=>v) (λv=>Ar e v f::M) (λ_=>L):=
 PZ (aP.buildSlice f q o u w b s t m)
theorem Le [d_ P] (j:Nat) {T:TypeId} {w:Nat} {z:V0} {k:TypeDesc} {x y:Operand} {v u:V0} {i:Int} {b:List α} (f:α) (h:0<=i/\i<b.length) (s:ev σ x=some (EL v (i.toNat*1))) (t:ev σ y=some u)
  (m:M[j]? = some (Ar e v b)) (q:e.enc f=[u]) (a:one u=true) (l:d_.tab P T=some ⟨k,1,w,z⟩) (p:e.sz=1)
  (o:J c n σ (M.set j (Ar e v (b.set i.toNat f))) L (wpList P ops Q rest)):
  J c n σ M L (wpList P ops Q (⟨none,.store T x y,ty,pos,aft,none⟩::rest)):=PV j f s t q a m l p h.1 h.2 o
theorem AX [d_ P] (j q:Nat) {T:TypeId} {G:Nat} {z:V0} {o:TypeDesc} {x y:Operand} {v u:V0} {i:Int} {vs b:List V0} {f:List (List α)} (h:0<=i/\i<f.length) (E:ev σ x=some (EL v (i.toNat*1))) (F:ev σ y=some u)
  (A:M[j]? = some (Ar bM.raw v vs)) (C:M[q]? = some (gN e b f)) (l:vs.set i.toNat u=b) (H:b.length=vs.length) (k:one u=true) (p:d_.tab P T=some ⟨o,1,G,z⟩)
  (B:J c n σ (M.set j (Ar bM.raw v b)) L (wpList P ops Q rest)):
  J c n σ M L (wpList P ops Q (⟨none,.store T x y,ty,pos,aft,none⟩::rest)):=λa w s t=>by
 have m:b.length=f.length:=by obtain⟨_,h⟩:=t.res C;exact h.1
 exact PV j u E F Z k A p Z h.1 (by omega) (by rw[l];exact B) a w s t
end
def dY (M L b a:List bH):Prop:=∀c w,St c M L w->St c b a w
section
variable {P:Program} {rd:Option Nat} {c:yO} {n:Sz} {σ:Fr} {M L M' L':List bH} {Q:Exit->Act->World->Prop} {ops:Array Oper} {rest:List Oper} {K:Act->World->Prop}
variable {d:Option Tmp} {D:Nat} {ty:TypeId} {pos:String} {aft:Array Edge} {g:Option (Nat×Bool)}
variable {α β:Type} {e:bM α} {r:eJ α}
variable {H Bs:List (Nat×List bH×List bH)} {G:Act->World->Prop} {GR:Act->World->List (Nat×World)->List (Nat×(World->Prop))->Prop}
theorem bW (h:dY M L M' L') (k:J c n σ M' L' G):J c n σ M L G:=λa w s t=>k a w s (h c w t)
theorem zBj (h:dY M L M' L') (k:JR c n σ M' L' H Bs GR):JR c n σ M L H Bs GR:=λa w X Y s t b f=>k a w X Y s (h c w t) b f
theorem bF {p:Prop} (h:∀c w,St c M L w->p) (k:p->J c n σ M L G):J c n σ M L G:=λa w s t=>k (h c w t) a w s t
theorem a_ {p:Prop} (h:∀c w,St c M L w->p) (k:p->JR c n σ M L H Bs GR):JR c n σ M L H Bs GR:=λa w X Y s t b f=>k (h c w t) a w X Y s t b f
theorem Know.one {v:V0} {h:List α} (b:aF M L (Sl r v h)):∀c w,St c M L w->one v=true:=λc w t=>by
 obtain⟨S,i,a,f,_⟩:=b.st t;rw[f];rfl
theorem dX (q:Nat) {vs:List V0} {xss:List (List α)} (a:M[q]? = some (gN e vs xss)):∀c w,St c M L w->vs.length=xss.length:=λc w t=>by
 obtain⟨_,h⟩:=t.res a;exact h.1
theorem dY.add {m:bH} (h:∀w,m.p w (λ_=>False)):dY M L (m::M) L:=λc w t=>by
 obtain⟨v,F,l,s⟩:=t;refine⟨v,λi k=>match i with|0=>False|i+1=>F i k,⟨?_,?_,?_⟩,λf u=>bH.same (s f u) (λk b=>⟨b.1,λi a=>by
   cases i with
   |zero=>exact a
   |succ i=>exact b.2 i a⟩) (λ_ _ _=>rfl)⟩
 ·intro i x o;cases i with
  |zero=>simp at o;subst o;exact h w
  |succ i=>exact l.res i x (by simpa using o)
 ·intro i k b;cases i with
  |zero=>exact b.elim
  |succ i=>exact l.rng i k b
 ·intro i j k a q;cases i with
  |zero=>exact a.elim
  |succ i=>
   cases j with
   |zero=>exact q.elim
   |succ j=>exact congrArg (· + 1) (l.dis i j k a q)
theorem eX (e:bM α):dY M L (Ar e (.slice none 0 0) []::M) L:=dY.add λ_=>⟨by simp,rfl,.inl ⟨rfl,rfl⟩⟩
theorem BN (e:bM α) (k:Nat):dY M L (gN e (List.replicate k (.slice none 0 0)) (List.replicate k [])::M) L:=dY.add λw=>by
 refine⟨by simp,λ_ _=>False,λi v f a b=> ?_,λ_ _ h=>h,λ_ _ _ h=>h.elim⟩
 rw[List.getElem?_replicate]at a b;split at a
 ·rename_i h;rw[if_pos h]at b;cases a;cases b;exact⟨by simp,rfl,.inl ⟨rfl,rfl⟩⟩
 ·cases a
theorem iA (e:bM α):dY M L (gN e [] []::M) L:=BN e 0
theorem rQ (i j:Nat) {u:V0} {vs:List V0} {l:List (List α)} {y:List α} (s:Nat.beq i j=false) (R:M[i]? = some (gN e vs l)) (S:M[j]? = some (Ar e u y)):dY M L ((M.set i (gN e (vs++[u]) (l++[y]))).eraseIdx j) L:=λc w t=>
 t.merge i j (λe=>by subst e;simp at s) R S (by
  rintro w T E ⟨o,G,F,p,I⟩ O z;refine⟨by simp[o],λq k=>(q<vs.length/\G q k)\/(q=vs.length/\E k),?_,?_,?_⟩
  ·intro q v C h m;by_cases A:q<vs.length
   ·rw[zAc A]at h;rw[zAc (by omega)]at m;exact bH.same (f:=Ar e v C) (F q v C h m) (λk a=> .inl ⟨A,a⟩) (λ_ _ _=>rfl)
   ·rw[zAb (by omega)]at h;rw[zAb (by omega)]at m;have x:q - vs.length=0:=by have:=bK h;simp at this;omega
    rw[x]at h;rw[show q - l.length=0 by omega]at m;simp at h m;subst h;subst m;exact bH.same (f:=Ar e u y) O (λk a=> .inr ⟨by omega,a⟩) (λ_ _ _=>rfl)
  ·rintro q k (⟨_,a⟩|⟨_,a⟩)
   ·exact .inl (p q k a)
   ·exact .inr a
  ·rintro q B k (⟨J,a⟩|⟨J,a⟩) (⟨N,b⟩|⟨N,b⟩)
   ·exact I q B k a b
   ·exact absurd b (z k (p q k a))
   ·exact absurd a (z k (p B k b))
   ·omega)
theorem nO (i j:Nat) {vs us:List V0} {o p:List (List α)} (B:Nat.beq i j=false) (S:M[i]? = some (gN e vs o)) (T:M[j]? = some (gN e us p)):dY M L ((M.set i (gN e (vs++us) (o++p))).eraseIdx j) L:=λc w t=>
 t.merge i j (λe=>by subst e;simp at B) S T (by
  rintro w U V ⟨h,G,J,z,N⟩ ⟨m,I,y,l,A⟩ C;refine⟨by simp[h,m],λq k=>(q<vs.length/\G q k)\/(vs.length<=q/\I (q - vs.length) k),?_,?_,?_⟩
  ·intro q v x s u;by_cases E:q<vs.length
   ·rw[zAc E]at s;rw[zAc (by omega)]at u;exact bH.same (f:=Ar e v x) (J q v x s u) (λk a=> .inl ⟨E,a⟩) (λ_ _ _=>rfl)
   ·rw[zAb (by omega)]at s;rw[zAb (by omega),<-h]at u;exact bH.same (f:=Ar e v x) (y _ v x s u) (λk a=> .inr ⟨by omega,a⟩) (λ_ _ _=>rfl)
  ·rintro q k (⟨_,a⟩|⟨_,a⟩)
   ·exact .inl (z q k a)
   ·exact .inr (l _ k a)
  ·rintro q F k (⟨O,a⟩|⟨O,a⟩) (⟨R,b⟩|⟨R,b⟩)
   ·exact N q F k a b
   ·exact absurd (l _ k b) (C k (z q k a))
   ·exact absurd (l _ k a) (C k (z F k b))
   ·have:=A _ _ k a b;omega)
theorem CN (i j:Nat) {u:V0} {k:Int} {vs:List V0} {a:List (List α)} {f:List α} (b:Nat.beq i j=false) (l:M[i]? = some (gN e vs a)) (m:M[j]? = some (Ar e u f)) (h:0<=k/\k<a.length):
  dY M L ((M.set i (gN e (vs.set k.toNat u) (a.set k.toNat f))).eraseIdx j) L:=λc w t=>by
 have o:=dX i l c w t;exact Wt (n:=⟨0,[]⟩) (σ:=[]) (G:=λ_ w=>St c ((M.set i (gN e (vs.set k.toNat u) (a.set k.toNat f))).eraseIdx j) L w) (k:=k) i j b l m h.1 (by omega) (λ_ _ _ t=>t) ⟨#[],[]⟩ w ⟨rfl,rfl,λ_ _ h=>by simp[lk]at h⟩ t
theorem aI.tail (l:List bH) {a:List bH}:aI M (l++a) a:=λf b=>by
 obtain⟨j,h⟩:=List.getElem?_of_mem (List.mem_append_right l b);exact aF.fact j h
theorem bP {l:List Oper} {m:List Nat} {b:Nat} {a:List Nat} (k:Nat) (i:a.all (Nat.ble b)=true) (f:a.map (l[·]?)=(l.drop k).map some) (h:J c n σ M L (wpList P l.toArray Q (l.drop k))):JR c n σ M L H Bs (RW P l.toArray Q (before m) (eK l) b a):=JR.tail i f h
def slq (v:V0) (l h b:Nat):V0:=match v with
 | .slice a _ cap=> .slice (if cap=l then a else a.map (·.add (l*b))) (h - l) (cap - l)
 |v=>v
theorem FC.part {w:World} {S:Nat->Prop} {v:V0} {m:List α} (I:FC r w S v m) {l h:Nat} (R:l<=h) (O:h<=m.length):FC r w S (slq v l h r.sz) ((m.take h).drop l):=by
 obtain⟨a,o,rfl,N,y⟩:=I;have f:((m.take h).drop l).length=h - l:=by simp;omega
 by_cases q:(m.take h).drop l=[]
 ·rw[q]at f ⊢;refine⟨_,_,by simp only[slq];congr 1;simpa using f.symm,by simp,.inl Z⟩
 ·rcases y with rfl|⟨b,k,rfl,B,y⟩
  ·simp at q
  ·have E:l<h:=by
    rcases zAu l h with z|z
    ·exact z
    ·exfalso;apply q;apply zAn;omega
   have C:o≠l:=by omega
   refine⟨some ⟨b,k+l*r.sz,none⟩,o - l,by simp[slq,C,f,fF],by omega,.inr ⟨b,k+l*r.sz,rfl,B,λi x p=> ?_⟩⟩
   have t:m[l+i]? = some x:=by
    rw[zAt,zAs]at p;split at p
    ·exact p
    ·cases p
   obtain⟨A,s,F⟩:=y (l+i) x t;refine⟨A,λj u J=> ?_,F⟩
   have:=s j u J;rw[zAy]at this;rw[show k+l*r.sz+(i*r.sz+j)=k+(l*r.sz+i*r.sz+j) by omega];exact this
theorem WK [d_ P] {T E:TypeId} {B C j F:Nat} {z I:V0} {m:TypeDesc} {x i:Operand} {v:V0} {k:Int} {l:List α} (A:ev σ x=some v) (f:ev σ i=some (.int .i64 k)) (u:aF M L (Sl r v l))
  (q:d_.tab P T=some ⟨.slice E,B,C,z⟩) (p:d_.tab P E=some ⟨m,j,F,I⟩) (h:0<=(0:Int)/\0<=k/\k<=l.length):Y P c n σ M L ⟨d,.slice T x none (some i) none,ty,pos,aft,g⟩ (slq v (0:Int).toNat k.toNat j):=λa w s t=>by
 obtain⟨S,J,b,y,N,_⟩:=u.st t;subst y;have o:0<=k/\k<=(b:Int):=by omega
 simp[execOp,s.eval A,s.eval f,Instr.sliceAt,Instr.slice,(d_.ok q).run_und w,Instr.sliceBounds,Instr.sliceBound,asIntOf,(d_.ok p).run_size w,slq,o]
theorem Qk [d_ P] {T E:TypeId} {B C k F:Nat} {z I:V0} {m:TypeDesc} {x j:Operand} {v:V0} {i:Int} {b:List α} (A:ev σ x=some v) (f:ev σ j=some (.int .i64 i)) (u:aF M L (Sl r v b))
  (q:d_.tab P T=some ⟨.slice E,B,C,z⟩) (p:d_.tab P E=some ⟨m,k,F,I⟩) (h:0<=i/\i<=(b.length:Int)/\(b.length:Int)<=b.length):Y P c n σ M L ⟨d,.slice T x (some j) none none,ty,pos,aft,g⟩ (slq v i.toNat (b.length:Int).toNat k):=λa w s t=>by
 obtain⟨S,J,l,y,N,_⟩:=u.st t;subst y;have o:0<=i/\i<=(b.length:Int):=by omega
 simp[execOp,s.eval A,s.eval f,Instr.sliceAt,Instr.slice,(d_.ok q).run_und w,Instr.sliceBounds,Instr.sliceBound,asIntOf,(d_.ok p).run_size w,slq,o]
theorem fZ [d_ P] {T h:TypeId} {q u:Nat} {z:V0} {f:TypeDesc} {x:Operand} {b o:Nat} {cs:List V0} {v:V0} (p:ev σ x=some (.pointer (some ⟨b,o,none⟩)))
  (j:aF M L (bL b cs h)) (k:d_.tab P T=some ⟨f,q,u,z⟩) (l:Bb f=false) (m:cs[o]? = some v):Y P c n σ M L ⟨d,.load T x,ty,pos,aft,g⟩ v:=λa w s t=>by
 obtain⟨F,i⟩:=j.st t;simp[execOp,s.eval p,CL (d_.ok k) l (bL.cell i m)]
theorem acE {t i:TypeId} {x y:Operand} {u v:V0} {p:Prop} [Decidable p] (b:ev σ x=some u) (f:ev σ y=some v)
  (h:∀w,(eqGuard .neq t x y u v).run P w = .ok () w/\(binOp .neq t u v).run P w = .ok (.bool (decide p)) w):Y P c n σ M L ⟨d,.binOp .neq t x y i,ty,pos,aft,g⟩ (.bool (decide p)):=λa w s _=>by
 simp[execOp,s.eval b,s.eval f,(h w).1,(h w).2]
theorem pY [d_ P] {T E:TypeId} {k v A f B:Nat} {z C:V0} {l:TypeDesc} {x y:Operand} {b:Nat} {i:Int} (q:ev σ x=some (.pointer (some ⟨b,0,none⟩))) (u:ev σ y=some (.int .i64 i))
  (p:d_.tab P T=some ⟨.array k E,v,A,z⟩) (o:d_.tab P E=some ⟨l,f,B,C⟩) (m:(f==0)=false) (h:0<=i/\i<(k:Int)):
  Y P c n σ M L ⟨d,.indexAddr T x y,ty,pos,aft,g⟩ (.pointer (some ⟨b,i.toNat*f,none⟩)):=λa w s t=>by
 have j:f≠0:=by simpa using m
 simp[execOp,s.eval q,s.eval u,Instr.indexAt,asIntOf,(d_.ok p).run_und w,h,Instr.sureAddr,(d_.ok o).run_size w,j,fF]
end
section
variable {P:Program} {rd:Option Nat} {c:yO} {n:Sz} {σ:Fr} {M L M' L':List bH} {Q:Exit->Act->World->Prop} {ops:Array Oper} {rest:List Oper} {K:Act->World->Prop}
variable {d:Option Tmp} {D:Nat} {ty:TypeId} {pos:String} {aft:Array Edge} {g:Option (Nat×Bool)}
variable {α β:Type} {e:bM α} {r:eJ α}
theorem aJ.b {A:Nat->Bool} {f a M L:List bH} {j:Nat} {H:List (Nat×List bH×List bH)} (h:A j=true) (k:aJ A f a H):aJ A f a ((j,M,L)::H):=⟨.inl h,k⟩
theorem aJ.h {A:Nat->Bool} {b a M L:List bH} {j:Nat} {H:List (Nat×List bH×List bH)} (h:aZ M b) (f:iC L a) (k:aJ A b a H):aJ A b a ((j,M,L)::H):=⟨.inr ⟨h,f⟩,k⟩
theorem aJ.z {A:Nat->Bool} {b a:List bH}:aJ A b a []:=trivial
theorem pX.b {A:Nat->Bool} {f a M L:List bH} {j:Nat} {H:List (Nat×List bH×List bH)} (h:A j=true) (k:pX A M L H):pX A M L ((j,f,a)::H):=⟨.inl h,k⟩
theorem pX.h {A:Nat->Bool} {b a M L:List bH} {j:Nat} {H:List (Nat×List bH×List bH)} (h:aZ M b) (f:iC L a) (k:pX A M L H):pX A M L ((j,b,a)::H):=⟨.inr ⟨h,f⟩,k⟩
theorem pX.z {A:Nat->Bool} {M L:List bH}:pX A M L []:=trivial
theorem gJ {v:V0} {vs:List V0} (h:one v=true) (k:vs.all one=true):(v::vs).all one=true:=by simp[h,k]
theorem eZ (k:IntKind) (x:Int):(Value.int k x).cells = #[.int k x]:=rfl
theorem eF (b:Bool):(Value.bool b).cells = #[.bool b]:=rfl
theorem dO (a:Option Addr) (l k:Nat):(Value.slice a l k).cells = #[.slice a l k]:=rfl
theorem e_ (a:Option Addr):(Value.pointer a).cells = #[.pointer a]:=rfl
theorem fC (a:ByteArray):(Value.string a).cells = #[.string a]:=rfl
theorem eG (f:Fn) (a b:Array V0):(Value.func f a b).cells = #[.func f a b]:=rfl
theorem JO (q:Nat) {vs:List V0} {a:List (List α)} {k:Int} {u:V0} (s:M[q]? = some (gN e (vs.set k.toNat u) a)) (h:0<=k/\k<a.length):∀c w,St c M L w->Go.Sx.one u=true:=λc w t=>by
 obtain⟨S,p,x,m,_⟩:=t.res s;have f:k.toNat<vs.length:=by simp at p;omega
 obtain⟨_,_,o⟩:=m k.toNat u _ (by rw[zAh f]) (zA2 (by omega));rcases o with⟨i,_⟩|⟨b,v,j,T,l,i,_⟩<;>(rw[i];rfl)
theorem Vd [d_ P] [Inhabited α] {T o:TypeId} {C:Nat} {z:V0} {l:TypeDesc} {x:Operand} {b k:Nat} {i:Int} {f:List α} {u:V0} (m:ev σ x=some (.pointer (some ⟨b,i.toNat*1,none⟩)))
  (q:aF M L (bL b (cellsOf e f) o)) (v:d_.tab P T=some ⟨l,1,C,z⟩) (y:Bb l=false) (A:e.sz=1) (B:(e.enc (at' f i))=[u]) (h:(0<=i/\i<(k:Int))/\f.length=k):
  Y P c n σ M L ⟨d,.load T x,ty,pos,aft,g⟩ u:=λa w s t=>by
 obtain⟨F,p⟩:=q.st t;have j:=Dm e f i.toNat (at' f i) (cX h.1.1 (by omega)) 0 u (by rw[B];rfl);rw[A,Nat.add_zero]at j;rw[Nat.mul_one]at m j;simp[execOp,s.eval m,CL (d_.ok v) y (bL.cell p j)]
theorem Ld [d_ P] (q:Nat) {T j:TypeId} {B:Nat} {z:V0} {p:TypeDesc} {x y:Operand} {b k:Nat} {i:Int} {a:List α} {u:V0} (o:α) (h:(0<=i/\i<(k:Int))/\a.length=k) (m:ev σ x=some (.pointer (some ⟨b,i.toNat*1,none⟩))) (A:ev σ y=some u)
  (s:M[q]? = some (bL b (cellsOf e a) j)) (w:e.enc o=[u]) (f:one u=true) (t:d_.tab P T=some ⟨p,1,B,z⟩) (l:e.sz=1)
  (v:J c n σ (M.set q (bL b (cellsOf e (a.set i.toNat o)) j)) L (wpList P ops Q rest)):
  J c n σ M L (wpList P ops Q (⟨none,.store T x y,ty,pos,aft,none⟩::rest)):=by
 rw[Nat.mul_one]at m;refine pJ q m A f s t ?_ ?_
 ·have:=fM e a;rw[l]at this;rw[zAv];omega
 ·rw[<-yX l w];exact v
end
end Go.Sx
namespace Go.Sx
section
abbrev vI (x:Int):V0:= .int .i64 x
abbrev vU (x:Int):V0:= .int .u32 x
abbrev vP (b:Nat):V0:= .pointer (some ⟨b,0,none⟩)
open Go.RowKit
variable {P:Program} {rd:Option Nat} {c:yO} {n:Sz} {σ:Fr} {M L:List bH} {Q:Exit->Act->World->Prop} {ops:Array Oper} {rest:List Oper} {d:Nat} {ty:TypeId} {pos:String} {aft:Array Edge} {x y:Operand} {v:V0} {K:Act->World->Prop}
theorem aA (h:(ev σ x,Nat.blt d n.sz)=(some v,true)) (k:J c n ((d,v)::σ) M L (wpList P ops Q rest)):J c n σ M L (wpList P ops Q (⟨some d,.move x,ty,pos,aft,none⟩::rest)):=aB (eO (Prod.mk.inj h).1) (Prod.mk.inj h).2 k
theorem aC (h:(ev σ x,Nat.blt d n.sz)=(some v,true)) (k:J c n ((d,v)::σ) M L (wpList P ops Q rest)):J c n σ M L (wpList P ops Q (⟨some d,.assign x,ty,pos,aft,none⟩::rest)):=aB (yU (Prod.mk.inj h).1) (Prod.mk.inj h).2 k
theorem bU [d_ P] {T:TypeId} {r s i t:Nat} {z w:V0} {e:Array Field} {p u q:String} {m:Bool} {g a j:Nat} {l:TypeDesc} {b o f:Nat} (h:(ev σ x,d_.tab P T,e[f]?,d_.tab P g,i==0,Nat.blt d n.sz)=(some (.pointer (some ⟨b,o,none⟩)),some ⟨.struct e,r,s,z⟩,some ⟨p,g,a,m,u,q,j⟩,some ⟨l,i,t,w⟩,false,true)) (k:J c n ((d,.pointer (some ⟨b,o+a,none⟩))::σ) M L (wpList P ops Q rest)):J c n σ M L (wpList P ops Q (⟨some d,.fieldAddr T x f,ty,pos,aft,none⟩::rest)):=by
  simp only[Prod.mk.injEq]at h;exact aB (cR h.1 h.2.1 h.2.2.1 h.2.2.2.1 h.2.2.2.2.1) h.2.2.2.2.2 k
theorem dQ [d_ P] (i:Nat) {T e:TypeId} {f g:Nat} {z:V0} {a:TypeDesc} {b o:Nat} {cs:List V0} (h:(ev σ x,M[i]?,d_.tab P T,Bb a,cs[o]?,Nat.blt d n.sz)=(some (.pointer (some ⟨b,o,none⟩)),some (bL b cs e),some ⟨a,f,g,z⟩,false,some v,true)) (k:J c n ((d,v)::σ) M L (wpList P ops Q rest)):J c n σ M L (wpList P ops Q (⟨some d,.load T x,ty,pos,aft,none⟩::rest)):=by
  simp only[Prod.mk.injEq]at h;exact aB (dL i h.1 h.2.1 h.2.2.1 h.2.2.2.1 h.2.2.2.2.1) h.2.2.2.2.2 k
theorem dM [d_ P] (i:Nat) {T e:TypeId} {f:Nat} {z:V0} {a:TypeDesc} {b:Nat} {cs:List V0} (h:(ev σ x,M[i]?,d_.tab P T,Bb a,Nat.blt d n.sz)=(some (.pointer (some ⟨b,0,none⟩)),some (bL b cs e),some ⟨a,cs.length,f,z⟩,true,true)) (k:J c n ((d,.agg cs.toArray)::σ) M L (wpList P ops Q rest)):J c n σ M L (wpList P ops Q (⟨some d,.load T x,ty,pos,aft,none⟩::rest)):=by
  simp only[Prod.mk.injEq]at h;exact aB (gV i h.1 h.2.1 h.2.2.1 h.2.2.2.1) h.2.2.2.2 k
theorem aM {e:Op} {j:Nat} {b a:Bool} (h:(gv ops σ j,a==b,Nat.blt d n.sz)=(some a,false,true)) (k:J c n ((d,undef)::σ) M L (wpList P ops Q rest)):J c n σ M L (wpList P ops Q (⟨some d,e,ty,pos,aft,some (j,b)⟩::rest)):=by
  simp only[Prod.mk.injEq]at h;exact Wq h.1 h.2.1 h.2.2 k
theorem dC {j:Nat} {b:Bool} (h:(gv ops σ j,ev σ x,Nat.blt d n.sz)=(some b,some v,true)) (k:J c n ((d,v)::σ) M L (wpList P ops Q rest)):J c n σ M L (wpList P ops Q (⟨some d,.move x,ty,pos,aft,some (j,b)⟩::rest)):=by
  simp only[Prod.mk.injEq]at h;exact aT h.1 (eO h.2.1) h.2.2 k
theorem cV {t a:TypeId} {i:IntKind} {p q:Int} (h:(ev σ x,ev σ y,Nat.blt d n.sz)=(some (.int i p),some (.int i q),true)) (k:J c n ((d,.bool (decide (p<q)))::σ) M L (wpList P ops Q rest)):J c n σ M L (wpList P ops Q (⟨some d,.binOp .lss t x y a,ty,pos,aft,none⟩::rest)):=by
  simp only[Prod.mk.injEq]at h;exact aB (CO h.1 h.2.1) h.2.2 k
theorem cC {t a:TypeId} {i:IntKind} {p q:Int} (h:(ev σ x,ev σ y,Nat.blt d n.sz)=(some (.int i p),some (.int i q),true)) (k:J c n ((d,.bool (decide (p=q)))::σ) M L (wpList P ops Q rest)):J c n σ M L (wpList P ops Q (⟨some d,.binOp .eql t x y a,ty,pos,aft,none⟩::rest)):=by
  simp only[Prod.mk.injEq]at h;exact aB (JV h.1 h.2.1) h.2.2 k
theorem cP {t a:TypeId} {i:IntKind} {p q:Int} (h:(ev σ x,ev σ y,Nat.blt d n.sz)=(some (.int i p),some (.int i q),true)) (k:J c n ((d,.int i (wI i (p+q)))::σ) M L (wpList P ops Q rest)):J c n σ M L (wpList P ops Q (⟨some d,.binOp .add t x y a,ty,pos,aft,none⟩::rest)):=by
  simp only[Prod.mk.injEq]at h;exact aB (yT h.1 h.2.1) h.2.2 k
theorem cdI {e b:Code} {p:Prop} {_:Decidable p} {f:Type} {u w:Option f} {r:f} (h:(if p then u else w)=some r) (j:ev σ x=some (.bool (decide p))) (i:p->u=some r->J c n σ M L (e.wpr rd P Q)) (g:¬p->w=some r->J c n σ M L (b.wpr rd P Q)):J c n σ M L ((Code.cond x e b).wpr rd P Q):=ZD j (λa=>i a (Iv a h)) (λa=>g a (XT a h))
theorem eN {b a:Code} {p:Prop} {_:Decidable p} {e:Type} {u w:Option e} {r:e} (h:(if p then u else w)=some r) (i:ev σ x=some (.bool (decide p))) (g:u=some r->J c n σ M L (b.wpr rd P Q)) (f:w=some r->J c n σ M L (a.wpr rd P Q)):J c n σ M L ((Code.cond x b a).wpr rd P Q):=cdI h i (λ_=>g) (λ_=>f)
theorem tC {f e:Code} {b:Bool} {g:Type} {u w:Option g} {r:g} (h:(if b=true then u else w)=some r) (k:ev σ x=some (.bool b)) (j:b=true->u=some r->J c n σ M L (f.wpr rd P Q)) (i:b=false->w=some r->J c n σ M L (e.wpr rd P Q)):J c n σ M L ((Code.cond x f e).wpr rd P Q):=Oi k (λa=>j a (Iv a h)) (λa=>i a (FA a h))
theorem BZ {d:Option Tmp} {f:Op} {j e:Nat} {p:Prop} {_:Decidable p} {b:Bool} {i:Type} {u w:Option i} {r:i} (h:(if p then u else w)=some r) (g:((ops[j]?).bind (·.dst),lk σ e)=(some e,some (.bool (decide p)))) (l:p->u=some r->J c n ((e,.bool true)::σ) M L (wpList P ops Q (⟨d,f,ty,pos,aft,some (j,b)⟩::rest))) (k:¬p->w=some r->J c n ((e,.bool false)::σ) M L (wpList P ops Q (⟨d,f,ty,pos,aft,some (j,b)⟩::rest))):J c n σ M L (wpList P ops Q (⟨d,f,ty,pos,aft,some (j,b)⟩::rest)):=Wp (Prod.mk.inj g).1 (Prod.mk.inj g).2 (λa=>l a (Iv a h)) (λa=>k a (XT a h))
theorem aO {ops:Array Oper} (h:J c n σ M L K):J c n σ M L (wpList P ops (Exit.then K Q) []):=h
theorem aU {id:Nat} {l:List Oper} {z:Code} (h:J c n σ M L (wpList P l.toArray (Exit.then (z.wpr rd P Q) Q) l)) (a:l.all kB=true:=by rfl):J c n σ M L ((Code.seq (Code.region id l.toArray false) z).wpr rd P Q):=aL (aQ h a)
variable {A B:Type} {ret:Unit->V0} {MO LO:Unit->List bH->List bH} {fn:Func} {C:A->Prop} {σI:A->B->Fr} {MI LI:A->B->List bH}
theorem iZ {t:Tmp} (h:(ret (),fn.results,lk σ t,MO () [],LO () [],n.ds)=(v,#[.tmp t],some v,M,[],[])):J c n σ M L (pN P fn (Qa c ret MO LO) .ret):=by
  simp only[Prod.mk.injEq]at h;exact iS () h.1 h.2.1 (RV.tmp h.2.2.1) (h.2.2.2.1▸aZ.refl _) (by rw[h.2.2.2.2.1];exact aI.nil) h.2.2.2.2.2
theorem nH {t:Tmp} (h:(ret (),fn.results,lk σ t,MO () [],LO () [],n.ds)=(v,#[.tmp t],some v,[],[],[])):J c n σ M L (pN P fn (Qa c ret MO LO) .ret):=by
  simp only[Prod.mk.injEq]at h;exact iS () h.1 h.2.1 (RV.tmp h.2.2.1) (by rw[h.2.2.2.1];exact aZ.nil) (by rw[h.2.2.2.2.1];exact aI.nil) h.2.2.2.2.2
theorem EV {x:Code} (C:A->Prop) (σI:A->B->Fr) (MI:A->B->List bH) (e:J c n σ M L (x.wpr rd P (Exit.then (WA c n C σI MI (λ_ _=>L)) Q))) (f:∀a b,C a->J c n (σI a b) (MI a b) L K):J c n σ M L (x.wpr rd P (Exit.then K Q)):=kU C σI MI (λ_ _=>L) e f
theorem fI {R:Type} {f:Code} (e:A->(A->Option R)->Option R) {r:R} {U:Nat} (σI:A->B->Fr) (MI:A->B->List bH) (i:A) (j:B) (h:bJ e U i=some r) (m:Cb σ (σI i j)) (l:aZ M (MI i j)) (g:∀k a b,e a (bJ e k)=some r->J c n (σI a b) (MI a b) L (f.wpr rd P (Exit.then (ZC c n e r σI MI (λ_ _=>L) k) Q))):J c n σ M L ((Code.loop f).wpr rd P Q):=oS e σI MI (λ_ _=>L) i j h m l (aI.refl _ _) g
theorem eR {x:Code} (C:A->Prop) (σI:A->Unit->Fr) (MI:A->Unit->List bH) (e:J c n σ M L (x.wpr rd P (Exit.then (WA c n C σI MI (λ_ _=>L)) Q))) (f:∀a b,C a->J c n (σI a b) (MI a b) L K):J c n σ M L (x.wpr rd P (Exit.then K Q)):=EV C σI MI e f
theorem cL (h:J c n σ M L K):J c n σ M L (Code.skip.wpr rd P (Exit.then K Q)):=eM h
theorem lL {id:Nat} (h:J c n σ M L K):J c n σ M L (Exit.inBlock id (Exit.then K Q) .normal):=h
theorem fG {id:Nat} {a b:Act->World->Prop} (h:J c n σ M L K):J c n σ M L ((Code.exit id).wpr rd P (Exit.then a (Exit.then b (Exit.inBlock id (Exit.then K Q))))):=rP (fX (fX (yQ (Gt h))))
theorem fT (x:A) (y:B) (a:C x) (b:Cb σ (σI x y)) (h:(MI x y,LI x y)=(M,L)):J c n σ M L (WA c n C σI MI LI):=cI x y a b ((Prod.mk.inj h).1▸aZ.refl _) ((Prod.mk.inj h).2▸aI.refl _ _)
theorem xY {R:Type} {a:A->(A->Option R)->Option R} {r:R} {k:Nat} (x:A) (y:B) (h:bJ a k x=some r) (b:Cb σ (σI x y)) (e:(MI x y,LI x y)=(M,L)):J c n σ M L (ZC c n a r σI MI LI k):=iG x y h b ((Prod.mk.inj e).1▸aZ.refl _) ((Prod.mk.inj e).2▸aI.refl _ _)
theorem zBg {A:Type} {ret:A->V0} {MO:A->List bH->List bH} {f:FuncId} {h:List Operand} {vs:List V0} {a:Array TypeId} {e:List bH} {d:Option Tmp} {g:Option (Nat×Bool)} (j:bB P f) (k:bD P f vs.toArray e ret MO (λ_ l=>l)) (m:h.map (ev σ)=vs.map some) (i:aI M L e) (b:∀x l,MO x l=MO x []++l:=by exact λ_ _=>rfl):aP P c n σ M L ⟨d,.call ⟨.value (.func f),h.toArray,a⟩,ty,pos,aft,g⟩ ret (λx=>MO x M) (λ_=>L):=Sb j k m i b
variable {l:List Oper} {m:List Nat} {k0:Nat} {Bs:List (Nat×List bH×List bH)} {rs:List Nat} {i:Nat}
theorem aV (h:(l[i]?,ev σ x,Nat.blt i k0,Nat.blt d n.sz)=(some ⟨some d,.move x,ty,pos,aft,none⟩,some v,true,true)) (k:JR c n ((d,v)::σ) M L [] ((i,[],[])::Bs) (RW P l.toArray Q (before m) (eK l) k0 rs)):JR c n σ M L [] Bs (RW P l.toArray Q (before m) (eK l) k0 (i::rs)):=by
  simp only[Prod.mk.injEq]at h;exact aY h.1 aZ.nil iC.nil (eO h.2.1) aJ.z k h.2.2.1 Z h.2.2.2
theorem cH [d_ P] {T:TypeId} {u w j D:Nat} {z F:V0} {e:Array Field} {s E t:String} {r:Bool} {g a p:Nat} {q:TypeDesc} {b o f:Nat} (h:(l[i]?,ev σ x,d_.tab P T,e[f]?,d_.tab P g,j==0,Nat.blt i k0,Nat.blt d n.sz)=(some ⟨some d,.fieldAddr T x f,ty,pos,aft,none⟩,some (.pointer (some ⟨b,o,none⟩)),some ⟨.struct e,u,w,z⟩,some ⟨s,g,a,r,E,t,p⟩,some ⟨q,j,D,F⟩,false,true,true)) (k:JR c n ((d,.pointer (some ⟨b,o+a,none⟩))::σ) M L [] ((i,[],[])::Bs) (RW P l.toArray Q (before m) (eK l) k0 rs)):JR c n σ M L [] Bs (RW P l.toArray Q (before m) (eK l) k0 (i::rs)):=by
  simp only[Prod.mk.injEq]at h;exact aY h.1 aZ.nil iC.nil (cR h.2.1 h.2.2.1 h.2.2.2.1 h.2.2.2.2.1 h.2.2.2.2.2.1) aJ.z k h.2.2.2.2.2.2.1 Z h.2.2.2.2.2.2.2
theorem fO [d_ P] (p:Nat) {T a:TypeId} {f g:Nat} {z:V0} {e:TypeDesc} {b o:Nat} {cs:List V0} (h:(l[i]?,ev σ x,M[p]?,d_.tab P T,Bb e,cs[o]?,Nat.blt i k0,Nat.blt d n.sz)=(some ⟨some d,.load T x,ty,pos,aft,none⟩,some (.pointer (some ⟨b,o,none⟩)),some (bL b cs a),some ⟨e,f,g,z⟩,false,some v,true,true)) (k:JR c n ((d,v)::σ) M L [] ((i,[bL b cs a],[])::Bs) (RW P l.toArray Q (before m) (eK l) k0 rs)):JR c n σ M L [] Bs (RW P l.toArray Q (before m) (eK l) k0 (i::rs)):=by
  simp only[Prod.mk.injEq]at h;exact aY h.1 (aZ.cons p h.2.2.1 aZ.nil) iC.nil (dL 0 h.2.1 Z h.2.2.2.1 h.2.2.2.2.1 h.2.2.2.2.2.1) aJ.z k h.2.2.2.2.2.2.1 Z h.2.2.2.2.2.2.2
theorem jD [d_ P] (p:Nat) {T a:TypeId} {f:Nat} {z:V0} {e:TypeDesc} {b:Nat} {cs:List V0} (h:(l[i]?,ev σ x,M[p]?,d_.tab P T,Bb e,Nat.blt i k0,Nat.blt d n.sz)=(some ⟨some d,.load T x,ty,pos,aft,none⟩,some (.pointer (some ⟨b,0,none⟩)),some (bL b cs a),some ⟨e,cs.length,f,z⟩,true,true,true)) (k:JR c n ((d,.agg cs.toArray)::σ) M L [] ((i,[bL b cs a],[])::Bs) (RW P l.toArray Q (before m) (eK l) k0 rs)):JR c n σ M L [] Bs (RW P l.toArray Q (before m) (eK l) k0 (i::rs)):=by
  simp only[Prod.mk.injEq]at h;exact aY h.1 (aZ.cons p h.2.2.1 aZ.nil) iC.nil (gV 0 h.2.1 Z h.2.2.2.1 h.2.2.2.2.1) aJ.z k h.2.2.2.2.2.1 Z h.2.2.2.2.2.2
end
theorem Iw {X R:Type} {b:X->(X->Option R)->Option R} {r:R} (I:X->Prop) (e:X->Nat)
  (h:∀x f,I x->(∀c,I c->e c<e x->f c=some r)->b x f=some r):∀(a:Nat) (x:X),I x->e x<a->bJ b a x=some r:=by
 intro a
 induction a with
 |zero=>intro x _ j;omega
 |succ k l=>
  intro x g j;exact h x _ g λc d i=>l c d (by omega)
def OK {R:Type} (Q:R->Prop) (o:Option R):Prop:=∃r,o=some r/\Q r
theorem Bo {X R:Type} {b:X->(X->Option R)->Option R} {Q:R->Prop} (I:X->Prop) (e:X->Nat)
  (h:∀x f,I x->(∀c,I c->e c<e x->OK Q (f c))->OK Q (b x f)):∀(a:Nat) (x:X),I x->e x<a->OK Q (bJ b a x):=by
 intro a
 induction a with
 |zero=>intro x _ j;omega
 |succ k l=>
  intro x g j;exact h x _ g λc d i=>l c d (by omega)
theorem cF {b:Type} {p:Prop} [Decidable p] (a:p) (x:Option b):ck p x=x:=if_pos a
theorem wr {x:Int} (a : -9223372036854775808<=x) (b:x<=9223372036854775807):wI .i64 x=x:=if_pos ⟨a,b⟩
theorem bG {a b:Type} {x:Option a} {y:a} {f:a->Option b} (h:x=some y):x.bind f=f y:=by rw[h];rfl
theorem ahC {a:Type} (l r:List a) (x y:a) (i:Nat) (h:l.length=i):(l++x::r).set i y=l++y::r:=by
 rw[List.set_append_right _ _ (by omega)];simp[<-h]
theorem Vh {a:Type} [Inhabited a] (l r:List a) (x:a) (i:Nat) (h:l.length=i):at' (l++x::r) (i:Int)=x:=by
 rw[mV,zAd,zAb (by omega)];simp[<-h]
theorem dJ {X R:Type} {step:X->(X->Option R)->Option R} {K:Option R} (N:Nat) (F:Nat->X) (c:∀(k:Nat) g,k<N->step (F k) g=g (F (k+1))) (e:∀g,step (F N) g=K):∀b,N<b->bJ step b (F 0)=K:=by
 have i:∀(d a b:Nat),a+d=N->d<b->bJ step b (F a)=K:=by
  intro d
  induction d with
  |zero=>
   intro a b j h;obtain rfl:a=N:=by omega
   obtain⟨f,rfl⟩:∃f,b=f+1:=⟨b - 1,by omega⟩
   exact e _
  |succ d l=>
   intro a b j h;obtain⟨f,rfl⟩:∃f,b=f+1:=⟨b - 1,by omega⟩
   show step (F a) (bJ step f)=K;rw[c a _ (by omega)];exact l (a+1) f (by omega) (by omega)
 exact λb h=>i N 0 b (by omega) h
theorem SU {X R:Type} {step:X->(X->Option R)->Option R} {K bad:Option R} (N:Nat) (p:Nat->Prop) (F:Nat->X) (r:∀(k:Nat) c,k<N->p k->step (F k) c=c (F (k+1))) (i:∀(k:Nat) c,k<N->¬p k->step (F k) c=bad) (j:∀c,step (F N) c=K):
  ∀b,N<b->((∀k,k<N->p k)->bJ step b (F 0)=K)/\(¬(∀k,k<N->p k)->bJ step b (F 0)=bad):=by
 have s:∀(d a b:Nat),a+d=N->d<b->((∀k,a<=k->k<N->p k)->bJ step b (F a)=K)/\(¬(∀k,a<=k->k<N->p k)->bJ step b (F a)=bad):=by
  intro d
  induction d with
  |zero=>
   intro a b t q;obtain rfl:a=N:=by omega
   obtain⟨f,rfl⟩:∃f,b=f+1:=⟨b - 1,by omega⟩
   exact⟨λ_=>j _,λh=>absurd (λk m g=>by omega) h⟩
  | succ d ih =>
   intro a b t q;obtain⟨f,rfl⟩:∃f,b=f+1:=⟨b - 1,by omega⟩
   obtain⟨u,v⟩:=ih (a+1) f (by omega) (by omega);have e:bJ step (f+1) (F a)=step (F a) (bJ step f):=rfl;rw[e];by_cases n:p a
   ·rw[r a _ (by omega) n];refine⟨λh=>u λk m g=>h k (by omega) g,λh=>v λo=>h λk m g=> ?_⟩
    by_cases l:k=a
    ·subst l;exact n
    ·exact o k (by omega) g
   ·exact⟨λh=>absurd (h a (zAe _) (by omega)) n,λ_=>i a _ (by omega) n⟩
 intro b q;obtain⟨m,g⟩:=s N 0 b (by omega) q;exact⟨λh=>m λk _ l=>h k l,λh=>g λo=>h λk l=>o k (by omega) l⟩
theorem Qx {X R:Type} {step:X->(X->Option R)->Option R} {K:X->Option R} (N:Nat) (I:Nat->X->Prop) (e:∀(k:Nat) x i,k<N->I k x->∃c,I (k+1) c/\step x i=i c) (h:∀x i,I N x->step x i=K x):∀b x,I 0 x->N<b->∃c,I N c/\bJ step b x=K c:=by
 have m:∀(d a b:Nat) (x:X),a+d=N->d<b->I a x->∃c,I N c/\bJ step b x=K c:=by
  intro d
  induction d with
  |zero=>
   intro a b x p l g;obtain rfl:a=N:=by omega
   obtain⟨f,rfl⟩:∃f,b=f+1:=⟨b - 1,by omega⟩
   exact⟨x,g,h _ _ g⟩
  |succ d r=>
   intro a b x p l g;obtain⟨f,rfl⟩:∃f,b=f+1:=⟨b - 1,by omega⟩
   obtain⟨c,j,q⟩:=e a x (bJ step f) (by omega) g;obtain⟨s,n,o⟩:=r (a+1) f c (by omega) (by omega) j;exact⟨s,n,by rw[<-o];exact q⟩
 exact λb x g l=>m N 0 b x (by omega) l g
end Go.Sx
section
set_option linter.unusedSectionVars false
namespace Go.Sx
open Go.RowKit
section defs
variable {κ ν:Type} [DecidableEq κ]
def Ga (a:κ->V0) (b:ν->V0):Nat->List (κ×ν)->List MapEntry
 |_,[]=>[]
 |i,x::xs=>⟨a x.1,b x.2,i⟩::Ga a b (i+1) xs
def nU (k:κ):List (κ×ν)->Option ν
 | []=>none
 |x::xs=>if k=x.1 then some x.2 else nU k xs
def EW (k:κ) (v:ν):List (κ×ν)->List (κ×ν)
 | []=>[(k,v)]
 |x::xs=>if k=x.1 then(k,v)::xs else x::EW k v xs
def Vu (a:ν->V0) (k:κ):Nat->List (κ×ν)->Option (Nat×V0)
 |_,[]=>none
 |i,x::xs=>if k=x.1 then some (i,a x.2)else Vu a k (i+1) xs
theorem OM (a:ν->V0) (k:κ):∀(i:Nat) (l:List (κ×ν)),(Vu a k i l).map (·.2)=(nU k l).map a
 |_,[]=>rfl
 |i,x::xs=>by
  simp only[Vu,nU];split
  ·rfl
  ·exact OM a k (i+1) xs
theorem LS (a:κ->V0) (b:ν->V0):∀(i:Nat) (l:List (κ×ν)) (x:κ×ν),Ga a b i (l++[x])=Ga a b i l++[⟨a x.1,b x.2,i+l.length⟩]
 |i,[],x=>rfl
 |i,y::ys,x=>by
  simp only[List.cons_append,Ga,LS a b (i+1) ys x,zA9];rw[show i+1+ys.length=i+(ys.length+1) by omega]
theorem Jw (k:κ) (v:ν):∀l:List (κ×ν),nU k l=none->EW k v l=l++[(k,v)]
 | [],_=>rfl
 | x :: xs, h => by
  simp only[nU]at h;split at h
  ·cases h
  ·rename_i a;simp only[EW,if_neg a,Jw k v xs h,List.cons_append]
theorem Ug (a:κ->V0) (b:ν->V0) (k:κ) (v:ν):∀(i0 i:Nat) (l:List (κ×ν)) (j:Nat) (u:V0),Vu b k i l=some (j,u)->
  i<=j/\((Ga a b i l)[j - i]?).map (·.key)=some (a k)/\Ga a b i (EW k v l)=(Ga a b i l).modify (j - i) (λe=>{e with key:=a k,val:=b v})/\(EW k v l).length=l.length
 |_,i,[],j,u,h=>by simp[Vu]at h
 | i0, i, x :: xs, j, u, h => by
  simp only[Vu]at h;split at h
  ·rename_i n;simp only[Option.some.injEq,Prod.mk.injEq]at h;obtain⟨rfl,_⟩:=h;simp[Ga,EW,n]
  ·rename_i c;obtain⟨o,f,g,m⟩:=Ug a b k v i0 (i+1) xs j u h;have d:j - i=(j - (i+1))+1:=by omega
   refine⟨by omega,?_,?_,?_⟩
   ·rw[d];simpa [Ga]using f
   ·simp only[EW,if_neg c,Ga];rw[d,List.modify_succ_cons,g]
   ·simp[EW,c,m]
end defs
structure Lg (P:Program) (kt:TypeId) {κ:Type} [DecidableEq κ] (ek:κ->V0):Prop where
 chk:∀b k w,(Instr.checkKey b 10000 kt (ek k)).run P w = .ok () w
 find:∀{ν:Type} (ev:ν->V0) (k:κ) (l:List (κ×ν)) w,(Instr.findKey kt (ek k) (Ga ek ev 0 l)).run P w = .ok (Vu ev k 0 l) w
 same:∀k,Instr.sameBits 10000 (ek k) (ek k)=true
def Mp {b c:Type} (d:b->V0) (e:c->V0) (r:Nat) (l:List (b×c)):bH where
 p w F:=F r/\w.heap[r]? = some (.map (Ga d e 0 l).toArray l.length)
 mono:=fun⟨f,a⟩ h=>by
  obtain⟨g,i⟩:=h r f (zAj.1 a).1;exact⟨g,by rw[i];exact a⟩
section
variable {P:Program} {rd:Option Nat} {c:yO} {n:Sz} {σ:Fr} {M L:List bH} {Q:Exit->Act->World->Prop} {ops:Array Oper} {rest:List Oper}
variable {d:Option Tmp} {ty:TypeId} {pos:String} {aft:Array Edge} {g:Option (Nat×Bool)}
theorem St.push {w:World} (t:St c M L w) (o:Obj) {m:bH} (z:m.p (w.alloc o) (λk=>k=w.heap.size)):St c (m::M) L (w.alloc o):=by
 have e:Nb w (w.alloc o):=(Below.refl _ _).alloc (zAe _) _;obtain⟨v,F,b,x⟩:=t;have u:∀k,k<w.heap.size->(w.alloc o).heap[k]? = w.heap[k]? := e.block;refine⟨v.trans e,λi k=>match i with|0=>k=w.heap.size|i+1=>F i k,⟨?_,?_,?_⟩,λf y=> ?_⟩
 ·intro i A a;cases i with
  |zero=>simp at a;subst a;exact z
  |succ i=>exact bH.same (b.res i A (by simpa using a)) (λ_ h=>h) (λk _ s=>u k s)
 ·intro i k q;cases i with
  |zero=>subst q;exact⟨.inl v.size,by simp⟩
  |succ i=>exact⟨(b.rng i k q).1,zB4 (b.rng i k q).2 e.size⟩
 ·intro i j k l r;cases i with
  |zero=>
   cases j with
   |zero=>rfl
   |succ j=>have:=(b.rng j k r).2;simp only at l;omega
  |succ i=>
   cases j with
   |zero=>have:=(b.rng i k l).2;simp only at r;omega
   |succ j=>exact congrArg (· + 1) (b.dis i j k l r)
 ·exact f.mono (x f y) λk q s=>⟨⟨q.1,λi l=>by
   cases i with
   |zero=>simp only at l;omega
   |succ i=>exact q.2 i l⟩,u k s⟩
variable {κ ν:Type} [DecidableEq κ] {ek:κ->V0} {ev:ν->V0}
theorem aP.makeMap (ek:κ->V0) (ev:ν->V0) {T:TypeId}:aP P c n σ M L ⟨d,.makeMap T none,ty,pos,aft,g⟩ (λr:Nat=> .map (some r)) (λr=>Mp ek ev r []::M) (λ_=>L):=λa w s t=>by
 have b:(execOp a.eval ⟨d,.makeMap T none,ty,pos,aft,g⟩).run P w = .ok (.value (.map (some w.heap.size))) (w.alloc (.map #[] 0)):=by
  simp[execOp,Instr.makeMap]
 simp only[Oper.wp,b,Oper.upon];exact⟨w.heap.size,rfl,t.push _ ⟨rfl,heap_alloc_new w _⟩⟩
theorem Tm [d_ P] {T j m:TypeId} {C D E G:Nat} {z f:V0} {o:TypeDesc} {w:World} {r:Nat} {l:List (κ×ν)} {F:Nat->Prop} (i:Lg P j ek) (q:(Mp ek ev r l).p w F)
  (s:d_.tab P T=some ⟨.map j m,C,D,z⟩) (t:d_.tab P m=some ⟨o,E,G,f⟩) (k:κ) (b:Bool):
  (Instr.lookup T (.map (some r)) (ek k) b).run P w = .ok (if b then .tuple #[((nU k l).map ev).getD f,.bool (nU k l).isSome]else((nU k l).map ev).getD f) w:=by
 have y:(getObj r).run P w = .ok (.map (Ga ek ev 0 l).toArray l.length) w:=by
  simp[getObj,Sem.run,q.2]
 have u:=i.find ev k l w;have a:=OM ev k 0 l;simp only[Instr.lookup];simp[(d_.ok s).run_und w,y,i.chk,u];cases e:Vu ev k 0 l with
 |none=>
  rw[e]at a;have:nU k l=none:=by cases h:nU k l<;>simp[h]at a ⊢
  simp[this,(d_.ok t).run_zero w]
 | some x =>
  rw[e]at a;obtain⟨v,A,B⟩:∃v,nU k l=some v/\ev v=x.2:=by
   cases h:nU k l with
   |none=>simp[h]at a
   |some v=>simp[h]at a;exact⟨v,rfl,a.symm⟩
  simp[A,B]
theorem Qj [d_ P] (j:Nat) {T e f:TypeId} {D E G H:Nat} {z h:V0} {i:TypeDesc} {x y:Operand} {r:Nat} {l:List (κ×ν)} (k:κ) {b:Bool} (v:Lg P e ek) (B:Go.Sx.ev σ x=some (.map (some r))) (C:Go.Sx.ev σ y=some (ek k)) (q:M[j]? = some (Mp ek ev r l))
  (o:d_.tab P T=some ⟨.map e f,D,E,z⟩) (p:d_.tab P f=some ⟨i,G,H,h⟩) {u:V0} (A:((nU k l).map ev).getD h=u):
  Y P c n σ M L ⟨d,.lookup T x y b,ty,pos,aft,g⟩ (if b then .tuple #[u,.bool (nU k l).isSome]else u):=λa w s t=>by
 obtain⟨F,m⟩:=t.res q;subst A;simp[execOp,s.eval B,s.eval C,Tm v m o p]
theorem Gd {w:World} {r:Nat} {a:Array MapEntry} {k:Nat} (h:w.heap[r]? = some (.map a k)) (o:Obj):(setObj r o).run P w = .ok () {w with heap:=w.heap.setIfInBounds r o}:=by
 simp[setObj,Sem.run,h]
theorem St.setMap {w:World} (t:St c M L w) {j r:Nat} {l b:List (κ×ν)} (f:M[j]? = some (Mp ek ev r l)) (o:Obj) (m:o = .map (Ga ek ev 0 b).toArray b.length):
  St c (M.set j (Mp ek ev r b)) L {w with heap:=w.heap.setIfInBounds r o}:=
 t.upd f Z Z Z (by simp) λF a _=>⟨λk _ i=>by
   rw[zB6 (λe=>i (by subst e;exact a.1))],F,⟨a.1,by
    rw[zBa (zAj.1 a.2).1,m]⟩,λ_ h=> .inl h⟩
theorem PU [d_ P] (j:Nat) {T R vt:TypeId} {s1 s2:Nat} {z:V0} {x y v:Operand} {r:Nat} {l:List (κ×ν)} (k:κ) (f:ν) (C:Lg P R ek) (Y:Go.Sx.ev σ x=some (.map (some r))) (hy:Go.Sx.ev σ y=some (ek k)) (X:Go.Sx.ev σ v=some (ev f)) (K:M[j]? = some (Mp ek ev r l))
  (I:d_.tab P T=some ⟨.map R vt,s1,s2,z⟩) (h:J c n σ (M.set j (Mp ek ev r (EW k f l))) L (wpList P ops Q rest)):
  J c n σ M L (wpList P ops Q (⟨none,.mapUpdate T x y v,ty,pos,aft,none⟩::rest)):=λa w s t=>by
 refine mS Z ?_;obtain⟨F,E⟩:=t.res K;have N:(getObj r).run P w = .ok (.map (Ga ek ev 0 l).toArray l.length) w:=by
  simp[getObj,Sem.run,E.2]
 have b:=C.find ev k l w;have A:=OM ev k 0 l;have B:∃o:Obj,(execOp a.eval ⟨none,.mapUpdate T x y v,ty,pos,aft,none⟩).run P w = .ok .skip {w with heap:=w.heap.setIfInBounds r o}/\o = .map (Ga ek ev 0 (EW k f l)).toArray (EW k f l).length:=by
  simp only[execOp,s.eval Y,s.eval hy,s.eval X,Instr.mapUpdate];cases m:Vu ev k 0 l with
  |none=>
   rw[m]at A b;have U:nU k l=none:=by cases h:nU k l<;>simp[h]at A ⊢
   refine⟨.map (Ga ek ev 0 l++[(⟨ek k,ev f,l.length⟩:MapEntry)]).toArray (l.length+1),by simp[(d_.ok I).run_und w,N,C.chk,b,Gd E.2],?_⟩
   rw[Jw k f l U,LS];simp
  | some q =>
   obtain⟨i,u⟩:=q;rw[m]at b;obtain⟨_,D,H,S⟩:=Ug ek ev k f 0 0 l i u m;rw[Nat.sub_zero]at D H;have O:(((Ga ek ev 0 l).toArray[i]?).map (·.key)).getD (ek k)=ek k:=by
    rw[List.getElem?_toArray,D];rfl
   refine⟨.map ((Ga ek ev 0 l).toArray.modify i λe=>{e with key:=ek k,val:=ev f}) l.length,?_,?_⟩
   ·have G:(Instr.keyThatStays (ek k) (ek k)).run P w = .ok (ek k) w:=by simp[Instr.keyThatStays,C.same k]
    have p:(Option.map (λx=>x.key) (Ga ek ev 0 l)[i]?).getD (ek k)=ek k:=by rw[D];rfl
    simp[(d_.ok I).run_und w,N,C.chk,b,p,G,Gd E.2]
   ·rw[H,S];simp
 obtain⟨o,W,V⟩:=B;simp only[Oper.wp,W,Oper.upon];exact h _ _ s (t.setMap K o V)
end
end Go.Sx
end
end
