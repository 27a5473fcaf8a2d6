/- Models and proofs. Conditions: none. -/
import Derived.WalkKit
import Derived.RangeFuncRecord
import Derived.OrdersIn
import Derived.TacticsIn
import Derived.DefersIn
import Derived.Test.YtgciopekomcbfaaGreatDoorProg
import Derived.Deep.AppendSrc
import Derived.Test.YtgciopekomcbfaaGreatDoorRows
import Derived.ProofKit
import Derived.Deep.Slices
import Derived.Lib.SmallJoins
abbrev V1:=Option
abbrev V6:=List
abbrev V2:=Go.World
abbrev V9:=Go.TypeId
abbrev V3:=Go.Operand
abbrev V5:=Go.Oper
abbrev V4:=Bool
theorem Q0.{u} {c:Prop} [Decidable c] {α:Sort u} {a b:α} (h:¬c:=by omega):ite c a b=b:=if_neg h
theorem Q3.{u} {c:Prop} [Decidable c] {α:Sort u} {a b:α} (h:c:=by omega):ite c a b=a:=if_pos h
theorem V7 {p:Prop} (h:p:=by omega):p:=h
theorem Q2 {p:Prop} (h:p:=by decide):p:=h
theorem V8 {p:Prop} (h:p:=by simp):p:=h
theorem Q1 {p:Prop} (h:p:=by simp;omega):p:=h
open Go.Proofs.Tryz
abbrev V0:=Go.Value
theorem Z.{u} {α:Sort u} {a:α}:a=a:=rfl
abbrev zA0:=@List.getElem?_eq_getElem
abbrev zA1:=@decide_eq_true_eq
abbrev zA2:=@List.length_set
abbrev zA3:=@List.mem_of_getElem?
abbrev zA4:=@Bool.and_eq_true
abbrev zA5:=@List.length_append
abbrev zA6:=@Nat.eq_of_beq_eq_true
abbrev zA7:=@List.all_eq_true
abbrev zA8:=@decide_eq_false
abbrev zA9:=@List.length_cons
abbrev zAa:=@List.getD_eq_getElem?_getD
abbrev zAb:=@List.getElem?_append_right
abbrev zAc:=@List.getElem?_append_left
abbrev zAd:=@decide_eq_true
abbrev zAe:=@List.mem_cons_self
abbrev zAf:=@Int.toNat_natCast
abbrev zAg:=@Nat.le_refl
abbrev zAh:=@Array.getElem?_eq_some_iff
abbrev zAi:=@List.mem_range
abbrev zAj:=@List.getElem?_set_self
abbrev zAk:=@List.mem_cons_of_mem
abbrev zAl:=@Array.getElem?_toList
abbrev zAm:=@List.length_nil
abbrev zAn:=@List.eq_nil_of_length_eq_zero
abbrev zAo:=@List.mem_cons
abbrev zAp:=@List.getElem?_eq_none
abbrev zAq:=@List.getElem?_set_ne
abbrev zAr:=@Nat.lt_or_ge
abbrev zAs:=@List.mem_map
abbrev zAt:=@List.getElem?_take
abbrev zAu:=@List.getElem?_drop
abbrev zAv:=@Nat.lt_of_lt_of_le
abbrev zAw:=@Decidable.not_not
abbrev zAx:=@Bool.or_eq_true
abbrev zAy:=@Nat.blt_eq
abbrev zAz:=@Nat.testBit_two_pow
abbrev zB0:=@Nat.mul_le_mul_right
abbrev zB1:=@List.forall_mem_cons
abbrev zB2:=@Array.getElem?_setIfInBounds_ne
abbrev zB3:=@Nat.add_mul
abbrev zB4:=@Nat.le_trans
abbrev zB5:=@of_decide_eq_true
abbrev zB6:=@List.append_assoc
abbrev zB7:=@Nat.lt_trichotomy
abbrev zB8:=@List.not_mem_nil
abbrev zB9:=@Bool.true_and
abbrev zBa:=@List.mem_append
abbrev zBb:=@Int.emod_lt_of_pos
abbrev zBc:=@Array.getElem?_setIfInBounds_self_of_lt
abbrev zBd:=@List.map_cons
abbrev zBe:=@List.mem_singleton
abbrev zBf:=@List.take_append_drop
abbrev zBg:=@List.map_congr_left
abbrev zBh:=@List.nodup_cons
abbrev zBi:=@Array.getElem?_append_left
abbrev zBj:=@Nat.eq_of_testBit_eq
noncomputable section
set_option linter.unusedVariables false
set_option linter.unusedSimpArgs false
set_option maxHeartbeats 4000000
set_option maxRecDepth 20000
namespace Go.Sx
open Go.RowKit
def FR (r:V1 Nat):Fence:={Fence.wide with round:=r}
theorem NR (P:Program) (r:V1 Nat):Machine.fenced P (FR r)=Machine.fenced P Fence.wide:=rfl
theorem VT (r:V1 Nat) (n:Nat):(FR r).room n:=λ_ h=>by cases h
theorem WE {r:V1 Nat} {n:Nat} {P:Program} {f:FuncId} {a:Array V0} {w:V2} {R:Ending->V2->Prop} (h:Calls P f a w R):CallsIn (FR r) n P f a w R:=
 ⟨trivial,λb _=>let ⟨e,w',fr,hr,s,x⟩:=h b;⟨e,w',fr,hr,(NR P r▸comesIn_wide.2 s),x⟩⟩
theorem Sg {r:V1 Nat} {n:Nat} {P:Program} {f:FuncId} {args:Array V0} {w:V2} {R:Ending->V2->Prop} (h:CallsIn (FR r) n P f args w R):Calls P f args w R:=
 λa=>let ⟨e,w',fr,hr,s,x⟩:=h.2 a (VT r _);⟨e,w',fr,hr,ComesIn.comes s,x⟩
def _root_.Go.Code.wpr (r:V1 Nat) (P:Program) (c:Code) (Q:Exit->Act->V2->Prop) (a:Act) (w:V2):Prop:=c.wpIn (FR r) 0 P Q a w
section
variable {r:V1 Nat} {P:Program} {Q:Exit->Act->V2->Prop} {a:Act} {w:V2}
theorem Jc {c:Code} {b:Exit->Act->V2->Prop} (d:∀e a w,Q e a w->b e a w) (h:c.wpr r P Q a w):c.wpr r P b a w:=Code.wpIn_mono d h
theorem XK {x y:Code} (h:x.wpr r P (Exit.then (y.wpr r P Q) Q) a w):(Code.seq x y).wpr r P Q a w:=wpIn_seq h
theorem Pa {id:Nat} {x:Code} (h:x.wpr r P (Exit.inBlock id Q) a w):(Code.block id x).wpr r P Q a w:=wpIn_block h
theorem Ud (h:Q .normal a w):Code.skip.wpr r P Q a w:=wpIn_skip h
theorem Uc {id:Nat} (h:Q (.exit id) a w):(Code.exit id).wpr r P Q a w:=wpIn_exit h
theorem XJ (h:Q .ret a w):Code.ret.wpr r P Q a w:=wpIn_ret h
theorem Gg {x:V3} {d c:Code} {b:V4} (e:a.eval x = .bool b) (g:b=true->d.wpr r P Q a w) (f:b=false->c.wpr r P Q a w):(Code.cond x d c).wpr r P Q a w:=wpIn_cond_split e g f
def _root_.Go.Oper.rnd (P:Program) (o:V5) (a:Act) (w:V2) (K:Act->V2->Prop):Prop:=
 ∃l f d b c h,(execOp a.eval o).run P w = .ok (.round l f d b c) h/\RoundIn (FR none) 0 P l f d b c h λe g=>∃v,e = .returned v/\K (a.put o.dst v) g
theorem _root_.Go.Oper.rnd_mono {o:V5} {K g:Act->V2->Prop} (m:∀a w,K a w->g a w) (h:o.rnd P a w K):o.rnd P a w g:=by
 obtain⟨l,f,d,b,c,p,i,j⟩:=h;exact⟨l,f,d,b,c,p,i,j.mono λe q ⟨v,k,n⟩=>⟨v,k,m _ _ n⟩⟩
def kD (o:V5):V4:=match o.op with|.defer _=>false|_=>true
theorem acp {o:V5} (h:kD o=true) (r:V1 Nat) (b:V3->V0):o.semAt r b=execOp b o:=
 Oper.semAt_eq r b o λc d=>by unfold kD at h;rw[d]at h;cases h
theorem aiw {n:Nat} {d:String} {b:Array V0} {R:V0->V2->Prop} (h:Rows P d b w R):RowsIn (FR r) n P d b w R:=λc e _=>
 let ⟨v,w',hr,s⟩:=h c e;⟨v,w',hr,(NR P r▸stepsIn_wide.2 s)⟩
theorem agB {o:V5} {K:Act->V2->Prop} (z:kD o=true) (h:o.wp P a w K Q\/o.rnd P a w K):o.wpIn (FR r) 0 P a w K Q:=by
 refine⟨λ_ _=>trivial,?_⟩
 rw[acp z];rcases h with h|h
 .unfold Oper.wp at h;cases n:(execOp a.eval o).run P w with
  | ok x q =>
   rw[n]at h;cases x with
   |value v=>exact h
   |skip=>exact h
   |defer d=>exact h
   |enter f b=>
    refine⟨(λg=>by cases g),(WE h).mono ?_⟩
    intro e i k;cases e<;>exact k
   |row rw b=>exact⟨(λg=>by cases g),aiw h⟩
   |_=>exact h.elim
  |halt x q=>
   rw[n]at h;cases x<;>first|exact h|exact h.elim
 .obtain⟨l,f,p,j,m,q,u,y⟩:=h;rw[u];refine⟨(λg=>by cases g),?_⟩
  exact⟨trivial,λc t _=>by
   obtain⟨e,i,⟨v,k,A⟩,s⟩:=y.2 c t (VT none _);subst k;exact⟨.returned v,i,A,s⟩⟩
end
def wpList (P:Program) (ops:Array V5) (Q:Exit->Act->V2->Prop):V6 V5->Act->V2->Prop
 | [],a,w=>Q .normal a w
 |o::rest,a,w=>
  if Region.wanted o (yielded ops a.tmps)then o.wp P a w (wpList P ops Q rest) Q\/o.rnd P a w (wpList P ops Q rest)else wpList P ops Q rest (a.put o.dst undef) w
theorem wpList_in {r:V1 Nat} {P:Program} {ops:Array V5} {Q:Exit->Act->V2->Prop}:∀(l:V6 V5) (a:Act) (w:V2),l.all kD=true->wpList P ops Q l a w->wpListIn (FR r) 0 P ops Q l a w
 | [],_,_,_,h=>h
 | o :: rest, a, w, hd, h => by
  simp only[List.all_cons,zA4]at hd;unfold wpList at h;unfold wpListIn;by_cases b:Region.wanted o (yielded ops a.tmps)=true
  .rw[if_pos b]at h ⊢;refine agB hd.1 ?_;rcases h with h|h
   .exact .inl (Oper.wp_mono (λa w h=>wpList_in rest a w hd.2 h) h)
   .exact .inr (Oper.rnd_mono (λa w h=>wpList_in rest a w hd.2 h) h)
  .rw[if_neg b]at h ⊢;exact⟨λ_ _=>trivial,wpList_in rest _ w hd.2 h⟩
theorem uS {r:V1 Nat} {P:Program} {Q:Exit->Act->V2->Prop} {a:Act} {w:V2} {id:Nat} {l:V6 V5} (b:l.all kD=true) (h:wpList P l.toArray Q l a w):(Code.region id l.toArray false).wpr r P Q a w:=
 wpIn_region_lit (wpList_in l a w b h)
def wpOp (P:Program) (b:Array V5) (Q:Exit->Act->V2->Prop) (i:Nat) (K:Act->V2->Prop) (a:Act) (w:V2):Prop:=
 match b[i]? with
 |none=>K a w
 |some o=>if Region.wanted o (yielded b a.tmps)then o.wp P a w K Q\/o.rnd P a w K else K (a.put o.dst undef) w
def Nt (P:Program) (b:Array V5) (Q:Exit->Act->V2->Prop):V6 Nat->Act->V2->Prop
 | [],a,w=>Q .normal a w
 |i::rest,a,w=>wpOp P b Q i (Nt P b Q rest) a w
theorem VQ {P:Program} {c:Array V5} {Q:Exit->Act->V2->Prop} (i:Nat) (b:V6 Nat) (a:Act) (w:V2):Nt P c Q (i::b) a w=wpOp P c Q i (Nt P c Q b) a w:=rfl
def wpAny (P:Program) (c:Region.Mode) (b:Array V5) (Q:Exit->Act->V2->Prop):Nat->Array V4->Act->V2->Prop
 |0,listed,a,w=>Region.ready c b listed=[]/\Q .normal a w
 |fuel+1,listed,a,w=>
  (Region.ready c b listed=[]->Q .normal a w)/\
  ∀i∈Region.ready c b listed,wpOp P b Q i (wpAny P c b Q fuel (listed.setIfInBounds i true)) a w
section
variable {r:V1 Nat} {P:Program} {ops:Array V5} {Q:Exit->Act->V2->Prop}
theorem XI {i:Nat} {K d:Act->V2->Prop} {a:Act} {w:V2} (f:∀o,ops[i]? = some o->kD o=true) (b:∀a w,K a w->d a w) (h:wpOp P ops Q i K a w):wpOpIn (FR r) 0 P ops Q i d a w:=by
 unfold wpOp at h;unfold wpOpIn;cases c:ops[i]? with
 |none=>rw[c]at h;exact b _ _ h
 | some o =>
  rw[c]at h;dsimp only at h ⊢;by_cases e:Region.wanted o (yielded ops a.tmps)=true
  .rw[if_pos e]at h ⊢;refine agB (f o c) ?_;rcases h with h|h
   .exact .inl (Oper.wp_mono b h)
   .exact .inr (Oper.rnd_mono b h)
  .rw[if_neg e]at h ⊢;exact⟨λ_ _=>trivial,b _ _ h⟩
theorem Ua (b:∀(i:Nat) (o:V5),ops[i]? = some o->kD o=true):∀(s:V6 Nat) (a:Act) (w:V2),Nt P ops Q s a w->wpOpsIn (FR r) 0 P ops Q s a w
 | [],_,_,h=>h
 |i::rest,a,w,h=>by
  rw[wpOpsIn_cons];exact XI (b i) (λa w h=>Ua b rest a w h) h
theorem T_ {d:Region.Mode} (c:∀(i:Nat) (o:V5),ops[i]? = some o->kD o=true):∀(fuel:Nat) (b:Array V4) (a:Act) (w:V2),wpAny P d ops Q fuel b a w->wpAnyIn (FR r) 0 P d ops Q fuel b a w
 |0,_,_,_,h=>h
 |fuel+1,b,a,w,h=>⟨h.1,λi e=>XI (c i) (λa w h=>T_ c fuel _ a w h) (h.2 i e)⟩
theorem Kx {l:V6 V5} (h:l.all kD=true) (i:Nat) (o:V5) (a:l.toArray[i]? = some o):kD o=true:=by
 have b:o∈l:=by
  rw[List.getElem?_toArray]at a;exact zA3 a
 exact zA7.1 h o b
theorem Gh {id:Nat} {l:V6 V5} {a:Act} {w:V2} (b:l.all kD=true) (c:P.follows .mixedOrders=true)
  (h:wpAny P .any l.toArray Q l.toArray.size (Array.replicate l.toArray.size false) a {w with drawn:=w.drawn+1}):(Code.region id l.toArray true).wpr r P Q a w:=
 wpIn_region_any c (T_ (Kx b) _ _ _ _ h)
theorem KV {id:Nat} {l:V6 V5} {a:Act} {w:V2} (b:l.all kD=true)
  (h:∀t,Nt P l.toArray Q (Region.schedule (P.follows .mixedOrders) l.toArray t) a {w with drawn:=w.drawn+1}):(Code.region id l.toArray true).wpr r P Q a w:=
 wpIn_region_draw λt=>Ua (Kx b) _ _ _ (h t)
end
def iX (P:Program) (a:Func) (R:Ending->V2->Prop):Exit->Act->V2->Prop:=bodyPostM (FR none) 0 P a R
theorem uV {P:Program} {f:FuncId} {fn:Func} {c:Code} {a:Array V0} {w:V2} {R:Ending->V2->Prop} (d:P.funcs[f]? = some fn) (b:fn.body=some c)
  (h:c.wpr none P (iX P fn R) {tmps:=a++Array.replicate (fn.ntmps - a.size) undef,defers:=[]} w):Calls P f a w R:=
 Sg (r:=none) (callsIn_of_wp_marks d b trivial h)
theorem body_end {P:Program} {fn:Func} {R:Ending->V2->Prop} {a:Act} {w:V2} {v:V0} {e:Exit} (f:e = .ret\/e = .normal) (c:a.defers=[]) (d:(results fn a.tmps).run P w = .ok v w) (b:R (.returned v) w):iX P fn R e a w:=by
 rcases f with rfl|rfl
 .show LeavesInM (FR none) 0 P fn a.tmps R a.defers .returning w;rw[c];exact⟨v,d,b⟩
 .show LeavesInM (FR none) 0 P fn a.tmps R a.defers .returning w;rw[c];exact⟨v,d,b⟩
theorem XX {P:Program} {b:Func} {R:Ending->V2->Prop} {a:Act} {w:V2} {e:Exit} {D:Nat} {d:V6 Deferred} (j:e = .ret\/e = .normal) (i:a.defers={target:= .collected D,args:= #[]}::d) (f:w.heap[D]? = some (.deferred (some [])))
  (h:LeavesInM (FR none) 0 P b a.tmps R d .returning (w.putObj D (.deferred none))):iX P b R e a w:=by
 have c:LeavesInM (FR none) 0 P b a.tmps R a.defers .returning w:=by
  rw[i];exact⟨(λg=>by cases g),.inl ⟨D,_,rfl,run_takeDeferred f,h⟩⟩
 rcases j with rfl|rfl<;>exact c
abbrev Fr:=V6 (Nat×V0)
def lk:Fr->Nat->V1 V0
 | [],_=>none
 |(k,v)::r,t=>bif Nat.beq t k then some v else lk r t
def ev (σ:Fr):V3->V1 V0
 | .tmp t=>lk σ t
 | .const v=>some v
 | .global g=>some (.pointer (some ⟨g,0,none⟩))
 | .func f=>some (.func (.func f) #[] #[])
structure Sz where
 sz:Nat
 ds:List Deferred
structure Hv (n:Sz) (σ:Fr) (a:Act):Prop where
 defers:a.defers=n.ds
 size:a.tmps.size=n.sz
 slot:∀t v,lk σ t=some v->a.tmps[t]? = some v
theorem Hv.eval {n:Sz} {c:Fr} {a:Act} (h:Hv n c a) {x:V3} {v:V0} (b:ev c x=some v):a.eval x=v:=by
 cases x with
 |tmp t=>simp only[ev]at b;have:=h.slot t v b;simp[Act.eval,this]
 |const u=>simpa [ev,Act.eval]using b
 |global g=>simpa [ev,Act.eval]using b
 |func f=>simpa [ev,Act.eval]using b
theorem oC {t d:Nat} (e:t≠d):Nat.beq t d=false:=by
 cases h:Nat.beq t d with
 |false=>rfl
 |true=>exact absurd (zA6 h) e
theorem Hv.put {n:Sz} {f:Fr} {a:Act} (h:Hv n f a) (d:Nat) (v:V0) (g:Nat.blt d n.sz=true):Hv n ((d,v)::f) (a.put (some d) v):=by
 have c:d<n.sz:=by simpa [zAy]using g
 refine⟨h.defers,by simp[Act.put,h.size],λt u b=> ?_⟩
 simp only[lk]at b;by_cases e:t=d
 .subst e;simp at b;subst b;simp[Act.put,h.size,c]
 .rw[oC e]at b;simp only[cond_false]at b;simp only[Act.put];rw[zB2 (Ne.symm e)];exact h.slot t u b
def Ba (b a:Fr):Prop:=∀t v,lk a t=some v->lk b t=some v
theorem Ba.nil {a:Fr}:Ba a []:=λ_ _ h=>by simp[lk]at h
theorem Ba.refl (a:Fr):Ba a a:=λ_ _ h=>h
theorem Ba.cons {c b:Fr} {t:Nat} {v:V0} (h:lk c t=some v) (r:Ba c b):Ba c ((t,v)::b):=by
 intro u x a;simp only[lk]at a;by_cases e:u=t
 .subst e;simp at a;subst a;exact h
 .rw[oC e]at a;exact r u x a
theorem Hv.weak {n:Sz} {c b:Fr} {a:Act} (h:Hv n c a) (d:Ba c b):Hv n b a:=
 ⟨h.defers,h.size,λt v e=>h.slot t v (d t v e)⟩
theorem SF {b a:Fr} (h:Ba b a:=by repeat (first|exact Ba.nil|refine Ba.cons Z ?_)):Ba b a:=h
structure aZ where
 p:World->(Nat->Prop)->Prop
 mono:∀{w w':World} {S S':Nat->Prop},p w S->(∀k,S k->k<w.heap.size->S' k/\w'.heap[k]? = w.heap[k]?)->p w' S'
structure wJ where
 w0:World
 S0:Nat->Prop
 O:Nat->Prop:=λ_=>False
def wJ.mine (c:wJ) (k:Nat):Prop:=c.w0.heap.size<=k\/c.O k
def wJ.all (c:wJ) (k:Nat):Prop:=c.S0 k\/c.mine k
abbrev Ph (w w':V2):Prop:=Below w.heap.size w w'
structure DI (O:Nat->Prop) (w w':World):Prop where
 os:w'.os=w.os
 tape:w'.tape=w.tape
 output:w'.output=w.output
 size:w.heap.size<=w'.heap.size
 block:∀k,k<w.heap.size->¬O k->w'.heap[k]? = w.heap[k]?
theorem DI.refl {O:Nat->Prop} (w:V2):DI O w w:=⟨rfl,rfl,rfl,zAg _,λ_ _ _=>rfl⟩
theorem DI.trans {O:Nat->Prop} {a b c:V2} (h:DI O a b) (k:Ph b c):DI O a c:=
 ⟨k.os.trans h.os,k.tape.trans h.tape,k.output.trans h.output,zB4 h.size k.size,λi d e=>(k.block i (zAv d h.size)).trans (h.block i d e)⟩
theorem DI.ext {w w':V2} (h:DI (λ_=>False) w w'):Ph w w':=⟨h.os,h.tape,h.output,h.size,λk a=>h.block k a id⟩
structure Own (c:wJ) (w:World) (M:List aZ) (F:Nat->Nat->Prop):Prop where
 res:∀(i:Nat) (m:aZ),M[i]? = some m->m.p w (F i)
 rng:∀i k,F i k->c.mine k/\k<w.heap.size
 dis:∀i j k,F i k->F j k->i=j
def Dk (c:wJ) (F:Nat->Nat->Prop) (k:Nat):Prop:=c.all k/\∀i,¬F i k
structure St (c:wJ) (M L:List aZ) (w:World):Prop where
 old:DI c.O c.w0 w
 own:∃F:Nat->Nat->Prop,Own c w M F/\∀f∈L,f.p w (Dk c F)
theorem aZ.same {f:aZ} {w c:V2} {S a:Nat->Prop} (h:f.p w S) (d:∀k,S k->a k) (e:∀k,S k->k<w.heap.size->c.heap[k]? = w.heap[k]?):f.p c a:=
 f.mono h λk b g=>⟨d k b,e k b g⟩
theorem St.ext {c:wJ} {M L:V6 aZ} {w w':V2} (h:St c M L w) (e:Ph w w'):St c M L w':=by
 obtain⟨n,F,a,g⟩:=h;refine⟨n.trans e,F,⟨λi m l=>aZ.same (a.res i m l) (λ_ h=>h) (λk _ b=>e.block k b),λi k d=>⟨(a.rng i k d).1,zAv (a.rng i k d).2 e.size⟩,a.dis⟩,
  λf j=>aZ.same (g f j) (λ_ h=>h) (λk _ b=>e.block k b)⟩
def aX (M M':V6 aZ):Prop:=∃g:Nat->Nat,(∀i j,i<M'.length->j<M'.length->g i=g j->i=j)/\∀(i:Nat) (m:aZ),M'[i]? = some m->M[g i]? = some m
theorem aX.refl (M:V6 aZ):aX M M:=⟨id,λ_ _ _ _ h=>h,λ_ _ h=>h⟩
theorem aX.nil {M:V6 aZ}:aX M []:=⟨id,λ_ _ h=>by simp at h,λ_ _ h=>by simp at h⟩
theorem aX.cons {M l:V6 aZ} (i:Nat) {m:aZ} (h:M[i]? = some m) (r:aX (M.eraseIdx i) l):aX M (m::l):=by
 obtain⟨g,p,q⟩:=r;let e:Nat->Nat:=λj=>match j with|0=>i|j+1=>if g j<i then g j else g j+1
 have t:i<M.length:=by
  rcases zAr i M.length with k|k
  .exact k
  .rw[zAp k]at h;cases h
 refine⟨e,?_,?_⟩
 .intro a b n o c;cases a with
  |zero=>
   cases b with
   |zero=>rfl
   |succ b=>simp only[e]at c;split at c<;>omega
  | succ a =>
   cases b with
   |zero=>simp only[e]at c;split at c<;>omega
   |succ b=>
    simp only[zA9]at n o;have:g a=g b:=by simp only[e]at c;split at c<;>split at c<;>omega
    have:=p a b V7 V7 this;omega
 .intro j s f;cases j with
  |zero=>simp at f;subst f;exact h
  |succ j=>
   simp only[List.getElem?_cons_succ]at f;have:=q j s f;rw[List.getElem?_eraseIdx]at this;simp only[e];split
   .rename_i d;rwa[if_pos d]at this
   .rename_i d;rwa[if_neg d]at this
theorem St.weak {c:wJ} {M L d L':V6 aZ} {w:V2} (h:St c M L w) (r:aX M d) (q:∀f∈L',f∈L):St c d L' w:=by
 obtain⟨v,F,l,s⟩:=h;obtain⟨g,t,u⟩:=r;refine⟨v,λi k=>i<d.length/\F (g i) k,⟨λi m a=> ?_,λi k b=>l.rng _ k b.2,λi j k a p=>t i j a.1 p.1 (l.dis _ _ k a.2 p.2)⟩,λf n=> ?_⟩
 .have o:i<d.length:=by
   rcases zAr i d.length with e|e
   .exact e
   .rw[zAp e]at a;cases a
  exact aZ.same (l.res _ m (u i m a)) (λk b=>⟨o,b⟩) (λ_ _ _=>rfl)
 .exact aZ.same (s f (q f n)) (λk b=>⟨b.1,λi a=>b.2 _ a.2⟩) (λ_ _ _=>rfl)
def mD (L a:V6 aZ):Prop:=∀f∈a,f∈L
theorem mD.nil {L:V6 aZ}:mD L []:=λ_ h=>by simp at h
theorem mD.cons {L b:V6 aZ} {f:aZ} (h:f∈L) (r:mD L b):mD L (f::b):=λg a=>by
 rcases zAo.1 a with rfl|a
 .exact h
 .exact r g a
def J (c:wJ) (n:Sz) (b:Fr) (M L:V6 aZ) (G:Act->V2->Prop):Prop:=∀a w,Hv n b a->St c M L w->G a w
section rules
variable {P:Program} {rd:V1 Nat} {c:wJ} {n:Sz} {σ σ':Fr} {M M' L L':V6 aZ} {G G':Act->V2->Prop} {Q:Exit->Act->V2->Prop}
theorem Zu (h:J c n σ M L G) (g:∀a w,G a w->G' a w):J c n σ M L G':=λa w s t=>g a w (h a w s t)
theorem agI (h:J c n σ' M' L' G) (e:Ba σ σ') (d:aX M M') (b:∀f∈L',f∈L):J c n σ M L G:=
 λa w s t=>h a w (s.weak e) (t.weak d b)
theorem aK {x y:Code} (h:J c n σ M L (x.wpr rd P (Exit.then (y.wpr rd P Q) Q))):J c n σ M L ((Code.seq x y).wpr rd P Q):=λa w s t=>XK (h a w s t)
theorem aS {id:Nat} {x:Code} (h:J c n σ M L (x.wpr rd P (Exit.inBlock id Q))):J c n σ M L ((Code.block id x).wpr rd P Q):=λa w s t=>Pa (h a w s t)
theorem eP (h:J c n σ M L (Q .normal)):J c n σ M L (Code.skip.wpr rd P Q):=λa w s t=>Ud (h a w s t)
theorem tB {id:Nat} (h:J c n σ M L (Q (.exit id))):J c n σ M L ((Code.exit id).wpr rd P Q):=λa w s t=>Uc (h a w s t)
theorem aT (h:J c n σ M L (Q .ret)):J c n σ M L (Code.ret.wpr rd P Q):=λa w s t=>XJ (h a w s t)
theorem Pk {x:V3} {e d:Code} {b:V4} (i:ev σ x=some (.bool b)) (g:b=true->J c n σ M L (e.wpr rd P Q)) (f:b=false->J c n σ M L (d.wpr rd P Q)):
  J c n σ M L ((Code.cond x e d).wpr rd P Q):=λa w s t=>Gg (s.eval i) (λh=>g h a w s t) (λh=>f h a w s t)
theorem KX {x:V3} {a b:Code} (d:ev σ x=some (.bool true)) (h:J c n σ M L (a.wpr rd P Q)):J c n σ M L ((Code.cond x a b).wpr rd P Q):=Pk d (λ_=>h) (λh=>by cases h)
theorem Gi {x:V3} {d a:Code} (b:ev σ x=some (.bool false)) (h:J c n σ M L (a.wpr rd P Q)):J c n σ M L ((Code.cond x d a).wpr rd P Q):=Pk b (λh=>by cases h) (λ_=>h)
theorem aR {id:Nat} {l:V6 V5} (h:J c n σ M L (wpList P l.toArray Q l)) (b:l.all kD=true:=by rfl):J c n σ M L ((Code.region id l.toArray false).wpr rd P Q):=λa w s t=>uS b (h a w s t)
theorem eW {a:Array V5} (h:J c n σ M L (Q .normal)):J c n σ M L (wpList P a Q []):=h
variable {K:Act->V2->Prop}
theorem CU (h:J c n σ M L K):J c n σ M L (Exit.then K Q .normal):=h
theorem fT {id:Nat} (h:J c n σ M L (Q (.exit id))):J c n σ M L (Exit.then K Q (.exit id)):=h
theorem aJ (h:J c n σ M L (Q .ret)):J c n σ M L (Exit.then K Q .ret):=h
theorem Zs {id:Nat} (h:J c n σ M L (Q .normal)):J c n σ M L (Exit.inBlock id Q .normal):=h
theorem bW {id:Nat} (h:J c n σ M L (Q .ret)):J c n σ M L (Exit.inBlock id Q .ret):=h
theorem Aj {id:Nat} (h:J c n σ M L (Q .normal)):J c n σ M L (Exit.inBlock id Q (.exit id)):=λa w s t=>by
 simp only[Exit.inBlock,if_true];exact h a w s t
theorem adu {id b:Nat} (e:Nat.beq b id=false) (h:J c n σ M L (Q (.exit b))):J c n σ M L (Exit.inBlock id Q (.exit b)):=λa w s t=>by
 have:b≠id:=λh=>by subst h;simp at e
 simp only[Exit.inBlock,if_neg this];exact h a w s t
def Inv {X:Type} (c:wJ) (n:Sz) (C:X->Prop) (b:X->Fr) (e d:X->V6 aZ) (f:X->Nat) (m:Nat) (a:Act) (w:V2):Prop:=
 ∃x,C x/\f x<m/\Hv n (b x) a/\St c (e x) (d x) w
theorem Zt {X:Type} {d:Code} (C:X->Prop) (o:X->Fr) (D B:X->V6 aZ) (H:X->Nat) (A:X) (h0:C A)
  (U:Ba σ (o A)) (hM:aX M (D A)) (hL:∀f∈B A,f∈L)
  (r:∀x,C x->J c n (o x) (D x) (B x) (d.wpr rd P (Exit.then (Inv c n C o D B H (H x)) Q))):J c n σ M L ((Code.loop d).wpr rd P Q):=by
 intro a w s t b k I T O S;have Y:∀m x a w,H x=m->C x->Hv n (o x) a->St c (D x) (B x) w->
   ∃e E F,Q e E F/\ArrivesIn (Machine.fenced P (FR rd)) P (lone (b.atR a (.code d :: .inLoop d::k)) I w) b k I e E F:=by
  intro m
  induction m using Nat.strongRecOn with
  | _ m ih =>
   intro x a w hm hC U ht;obtain⟨e,h,i,p,g⟩:=r x hC a w U ht b (.inLoop d::k) I T O S;cases e with
   |normal=>
    obtain⟨y,N,R,V,W⟩:=p;obtain⟨v,u,z,q,j⟩:=ih (H y) (hm▸R) y h i Z N V W;exact⟨v,u,z,q,.of_steps (StepsIn.trans g (.one (fenced_calm O S Z) stepR_inLoop)) j⟩
   |exit id=>exact⟨_,h,i,p,.pass (x:= .inLoop d) Z (λ_ _=> .inl V8) g⟩
   |goto l=>exact⟨_,h,i,p,.pass (x:= .inLoop d) Z (λ_ _=> .inl V8) g⟩
   |ret=>exact⟨_,h,i,p,.pass (x:= .inLoop d) Z (λ_ _=> .inl V8) g⟩
   |panic ch=>exact⟨_,h,i,p,.pass (x:= .inLoop d) Z (λ_ _=> .inl V8) g⟩
   |outgrown=>exact⟨_,h,i,p,.pass (x:= .inLoop d) Z (λ_ _=> .inl V8) g⟩
 obtain⟨e,E,F,p,g⟩:=Y _ A a w Z h0 (s.weak U) (t.weak hM hL);exact⟨e,E,F,p,.of_steps (.one (fenced_calm O S Z) stepR_loop) g⟩
def Y (P:Program) (c:wJ) (n:Sz) (σ:Fr) (M L:V6 aZ) (o:V5) (v:V0):Prop:=
 ∀a w,Hv n σ a->St c M L w->(execOp a.eval o).run P w = .ok (.value v) w
theorem mQ {d:Array V5} {b:V6 V5} {o:V5} {a:Act} {w:V2} (e:Region.wanted o (yielded d a.tmps)=true)
  (h:o.wp P a w (wpList P d Q b) Q):wpList P d Q (o::b) a w:=by
 unfold wpList;rw[if_pos e];exact .inl h
theorem aB {f:Array V5} {b:V6 V5} {d:Nat} {i:Op} {j:V9} {g:String} {e:Array Edge} {v:V0}
  (l:Y P c n σ M L ⟨some d,i,j,g,e,none⟩ v) (k:Nat.blt d n.sz=true) (h:J c n ((d,v)::σ) M L (wpList P f Q b)):
  J c n σ M L (wpList P f Q (⟨some d,i,j,g,e,none⟩::b)):=λa w s t=>
 mQ Z (by simp only[Oper.wp,l a w s t,Oper.upon];exact h _ w (s.put d v k) t)
def gv (a:Array V5) (σ:Fr) (j:Nat):V1 V4:=
 match ((a[j]?).bind (·.dst)).bind (lk σ)with
 |some (.bool b)=>some b
 |_=>none
theorem Cj {e:Array V5} {j:Nat} {b:V4} {a:Act} (s:Hv n σ a) (h:gv e σ j=some b):yielded e a.tmps j=some b:=by
 unfold gv at h;unfold yielded;cases g:(e[j]?).bind (·.dst)with
 |none=>simp[g]at h
 | some d =>
  simp only[g,Option.bind_some]at h ⊢;cases f:lk σ d with
  |none=>simp[f]at h
  |some v=>
   rw[s.slot d v f];rw[f]at h;cases v<;>first|exact h|cases h
theorem bA {f:Array V5} {e:V6 V5} {d:Nat} {k:Op} {l:V9} {i:String} {g:Array Edge} {j:Nat} {b:V4} {v:V0}
  (o:gv f σ j=some b) (p:Y P c n σ M L ⟨some d,k,l,i,g,some (j,b)⟩ v) (m:Nat.blt d n.sz=true) (h:J c n ((d,v)::σ) M L (wpList P f Q e)):
  J c n σ M L (wpList P f Q (⟨some d,k,l,i,g,some (j,b)⟩::e)):=λa w s t=>
 mQ (by simp[Region.wanted,Cj s o]) (by simp only[Oper.wp,p a w s t,Oper.upon];exact h _ w (s.put d v m) t)
theorem Zr {f:Array V5} {e:V6 V5} {d:Nat} {p:Op} {q:V9} {i:String} {g:Array Edge} {j:Nat} {b k:V4}
  (o:gv f σ j=some k) (l:(k==b)=false) (m:Nat.blt d n.sz=true) (h:J c n ((d,undef)::σ) M L (wpList P f Q e)):
  J c n σ M L (wpList P f Q (⟨some d,p,q,i,g,some (j,b)⟩::e)):=λa w s t=>by
 unfold wpList;rw[if_neg (by simp[Region.wanted,Cj s o,l])];exact h _ w (s.put d undef m) t
theorem Hv.over {n:Sz} {σ:Fr} {a:Act} (h:Hv n σ a) {d:Nat} {v:V0} (f:a.tmps[d]? = some v):Hv n ((d,v)::σ) a:=
 ⟨h.defers,h.size,λt u b=>by
  simp only[lk]at b;by_cases e:t=d
  .subst e;simp at b;subst b;exact f
  .rw[oC e]at b;exact h.slot t u b⟩
theorem Ef {f:Array V5} {e:V6 V5} {d:V1 Tmp} {l:Op} {m:V9} {h:String} {g:Array Edge} {j k:Nat} {i b:V4}
  (_:(f[j]?).bind (·.dst)=some k) (o:lk σ k=some (.bool i)) (q:i=true->J c n ((k,.bool true)::σ) M L (wpList P f Q (⟨d,l,m,h,g,some (j,b)⟩::e)))
  (p:i=false->J c n ((k,.bool false)::σ) M L (wpList P f Q (⟨d,l,m,h,g,some (j,b)⟩::e))):
  J c n σ M L (wpList P f Q (⟨d,l,m,h,g,some (j,b)⟩::e)):=by
 cases i
 .exact λa w s t=>p Z a w (s.over (s.slot _ _ o)) t
 .exact λa w s t=>q Z a w (s.over (s.slot _ _ o)) t
theorem Zq {e:Array V5} {a:V6 V5} {d:V1 Tmp} {k:Op} {l:V9} {g:String} {f:Array Edge} {j i:Nat} {p:Prop} {_:Decidable p} {b:V4}
  (m:(e[j]?).bind (·.dst)=some i) (q:lk σ i=some (.bool (decide p))) (r:p->J c n ((i,.bool true)::σ) M L (wpList P e Q (⟨d,k,l,g,f,some (j,b)⟩::a)))
  (o:¬p->J c n ((i,.bool false)::σ) M L (wpList P e Q (⟨d,k,l,g,f,some (j,b)⟩::a))):
  J c n σ M L (wpList P e Q (⟨d,k,l,g,f,some (j,b)⟩::a)):=
 Ef m q (λh=>r (zB5 h)) (λh=>o (of_decide_eq_false h))
theorem adt {x:V3} {b a:Code} {p:Prop} {_:Decidable p} (f:ev σ x=some (.bool (decide p))) (e:p->J c n σ M L (b.wpr rd P Q)) (d:¬p->J c n σ M L (a.wpr rd P Q)):
  J c n σ M L ((Code.cond x b a).wpr rd P Q):=Pk f (λh=>e (zB5 h)) (λh=>d (of_decide_eq_false h))
end rules
structure Ty where
 desc:TypeDesc
 size:Nat
 bytes:Nat
 zero:V0
structure tM (P:Program) (T:Nat) (d:Ty):Prop where
 und:P.underlying T=some d.desc
 info:∃i,P.info? T=some i/\i.size=d.size/\i.bytes=d.bytes/\i.zero=some d.zero
class cO (P:Program) where
 tab:Nat->Option Ty
 ok:∀{T d},tab T=some d->tM P T d
section
variable {P:Program} {T:Nat} {d:Ty} (w:V2)
theorem tM.run_und (h:tM P T d):(underlying T).run P w = .ok d.desc w:=run_underlying h.und w
theorem tM.run_size (h:tM P T d):(sizeOf T).run P w = .ok d.size w:=by
 obtain⟨i,a,b,_,_⟩:=h.info;simp[sizeOf,typeInfo,a,b]
theorem tM.run_zero (h:tM P T d):(zeroValue T).run P w = .ok d.zero w:=by
 obtain⟨i,a,_,_,b⟩:=h.info;simp[zeroValue,typeInfo,a,b]
def yA:TypeDesc->V4
 | .struct _ | .array _ _=>true
 |_=>false
theorem tM.run_agg (h:tM P T d):(isAgg T).run P w = .ok (yA d.desc) w:=by
 simp only[isAgg];simp[h.run_und w];cases d.desc<;>rfl
end
section
variable {P:Program} {rd:V1 Nat} {c:wJ} {n:Sz} {σ:Fr} {M L:V6 aZ}
variable {d:V1 Tmp} {ty:V9} {pos:String} {aft:Array Edge} {g:V1 (Nat×V4)}
theorem iO {x:V3} {v:V0} (b:ev σ x=some v):Y P c n σ M L ⟨d,.move x,ty,pos,aft,g⟩ v:=λa w s _=>by
 simp[execOp,s.eval b]
theorem Cg {x:V3} {v:V0} (b:ev σ x=some v):Y P c n σ M L ⟨d,.assign x,ty,pos,aft,g⟩ v:=λa w s _=>by
 simp[execOp,s.eval b]
theorem La {x y z:V3} {v:V0} (b:ev σ x=some (.bool true)) (e:ev σ y=some v):Y P c n σ M L ⟨d,.pick x y z,ty,pos,aft,g⟩ v:=λa w s _=>by
 simp[execOp,s.eval b,s.eval e,asBool]
theorem Pu {x y z:V3} {v:V0} (b:ev σ x=some (.bool false)) (e:ev σ z=some v):Y P c n σ M L ⟨d,.pick x y z,ty,pos,aft,g⟩ v:=λa w s _=>by
 simp[execOp,s.eval b,s.eval e,asBool]
theorem Pb {x:Int} (a : -9223372036854775808<=x) (b:x<=9223372036854775807):IntKind.i64.wrap x=x:=by
 unfold IntKind.wrap;simp only[IntKind.bits,IntKind.signed];simp;omega
theorem kO {a:BinOp} {t:V9} {x y:V3} {k b:IntKind} {p q:Int} (w:V2):(eqGuard a t x y (.int k p) (.int b q)).run P w = .ok () w:=by
 unfold eqGuard;cases a<;>simp
theorem Sa {t f:V9} {x y:V3} {k:IntKind} {p q:Int} (b:ev σ x=some (.int k p)) (e:ev σ y=some (.int k q)) (h:q≠0):
  Y P c n σ M L ⟨d,.binOp .rem t x y f,ty,pos,aft,g⟩ (.int k (p.tmod q)):=λa w s _=>by
 simp[execOp,s.eval b,s.eval e,binOp,Op.intDiv,kO,h]
theorem Ft {t f:V9} {x y:V3} {k:IntKind} {p q:Int} (b:ev σ x=some (.int k p)) (e:ev σ y=some (.int k q)):
  Y P c n σ M L ⟨d,.binOp .lss t x y f,ty,pos,aft,g⟩ (.bool (decide (p<q))):=λa w s _=>by
 simp[execOp,s.eval b,s.eval e,binOp,Op.intCmp,kO]
theorem EM {t f:V9} {x y:V3} {k:IntKind} {p q:Int} (b:ev σ x=some (.int k p)) (e:ev σ y=some (.int k q)):
  Y P c n σ M L ⟨d,.binOp .leq t x y f,ty,pos,aft,g⟩ (.bool (decide (p<=q))):=λa w s _=>by
 simp[execOp,s.eval b,s.eval e,binOp,Op.intCmp,kO]
theorem wM {t f:V9} {x y:V3} {k:IntKind} {p q:Int} (b:ev σ x=some (.int k p)) (e:ev σ y=some (.int k q)):
  Y P c n σ M L ⟨d,.binOp .gtr t x y f,ty,pos,aft,g⟩ (.bool (decide (q<p))):=λa w s _=>by
 simp[execOp,s.eval b,s.eval e,binOp,Op.intCmp,kO]
theorem CV {t f:V9} {x y:V3} {k:IntKind} {p q:Int} (b:ev σ x=some (.int k p)) (e:ev σ y=some (.int k q)):
  Y P c n σ M L ⟨d,.binOp .geq t x y f,ty,pos,aft,g⟩ (.bool (decide (q<=p))):=λa w s _=>by
 simp[execOp,s.eval b,s.eval e,binOp,Op.intCmp,kO]
theorem ZL {t f:V9} {x y:V3} {k:IntKind} {p q:Int} (b:ev σ x=some (.int k p)) (e:ev σ y=some (.int k q)):
  Y P c n σ M L ⟨d,.binOp .eql t x y f,ty,pos,aft,g⟩ (.bool (decide (p=q))):=λa w s _=>by
 simp[execOp,s.eval b,s.eval e,binOp,Op.intCmp,kO];by_cases h:p=q<;>simp[h]
theorem Kl {t f:V9} {x y:V3} {k:IntKind} {p q:Int} (b:ev σ x=some (.int k p)) (e:ev σ y=some (.int k q)):
  Y P c n σ M L ⟨d,.binOp .neq t x y f,ty,pos,aft,g⟩ (.bool (decide (p≠q))):=λa w s _=>by
 simp[execOp,s.eval b,s.eval e,binOp,Op.intCmp,kO];by_cases h:p=q<;>simp[h]
theorem sI {t:V9} {x:V3} {b:V4} (e:ev σ x=some (.bool b)):Y P c n σ M L ⟨d,.unOp .not t x,ty,pos,aft,g⟩ (.bool (!b)):=λa w s _=>by
 simp[execOp,s.eval e,Op.unary]
theorem agS {t:V9} {x:V3} {p:Prop} {_:Decidable p} (b:ev σ x=some (.bool (decide p))):Y P c n σ M L ⟨d,.unOp .not t x,ty,pos,aft,g⟩ (.bool (decide (¬p))):=λa w s _=>by
 simp[execOp,s.eval b,Op.unary]
theorem uU {x:V3} {vs:V6 V0} {i:Nat} {v:V0} (e:ev σ x=some (.tuple vs.toArray)) (b:vs[i]? = some v):Y P c n σ M L ⟨d,.extract x i,ty,pos,aft,g⟩ v:=λa w s _=>by
 simp[execOp,s.eval e,Instr.extract,b]
theorem LU {t f:V9} {x y:V3} {k:IntKind} {p q:Int} (b:ev σ x=some (.int k p)) (e:ev σ y=some (.int k q)):
  Y P c n σ M L ⟨d,.call ⟨.builtin .max,#[x,y],#[t,f]⟩,ty,pos,aft,g⟩ (.int k (max p q)):=λa w s _=>by
 simp[execOp,resolve,invoke,builtin,s.eval b,s.eval e,Builtin.max_,Builtin.max2];split<;>omega
theorem ZO {t f:V9} {x y:V3} {k:IntKind} {p q:Int} (b:ev σ x=some (.int k p)) (e:ev σ y=some (.int k q)):
  Y P c n σ M L ⟨d,.call ⟨.builtin .min,#[x,y],#[t,f]⟩,ty,pos,aft,g⟩ (.int k (min p q)):=λa w s _=>by
 simp[execOp,resolve,invoke,builtin,s.eval b,s.eval e,Builtin.min_,Builtin.min2];split<;>omega
theorem uB {e:Fn} {cs:V6 V3} {vs:V6 V0} (b:cs.map (ev σ)=vs.map some):Y P c n σ M L ⟨d,.makeFunc e #[] cs.toArray,ty,pos,aft,g⟩ (.func e #[] vs.toArray):=λa w s _=>by
 have:cs.map a.eval=vs:=by
  induction cs generalizing vs with
  |nil=>cases vs<;>simp_all
  |cons x cs f=>
   cases vs with
   |nil=>simp at b
   |cons v vs=>simp at b;simp[s.eval b.1,f b.2]
 simp[execOp,Instr.makeFunc,this]
end
def at' {a:Type} [Inhabited a] (xs:V6 a) (i:Int):a:=xs.getD i.toNat default
theorem cG {a:Type} [Inhabited a] {xs:V6 a} {i:Int} (b:0<=i) (h:i<xs.length):xs[i.toNat]? = some (at' xs i):=by
 unfold at';rw[zAa,zA0 V7];rfl
theorem mE {b:Type} [Inhabited b] (a:V6 b) (i:Nat):at' a (i:Int)=a.getD i default:=by simp[at']
def KH (v:V0) (o:Nat):Addr:=match v with
 | .slice (some a) _ _=>a.add o
 |_=>⟨0,o,none⟩
def Er (v:V0) (o:Nat):V0:= .pointer (some (KH v o))
theorem Pe (a:Addr) (o p:Nat):(a.add o).add p=a.add (o+p):=by
 unfold Addr.add;by_cases b:o=0<;>by_cases c:p=0<;>simp[b,c,Nat.add_assoc]
theorem Lg (v:V0) (o p:Nat):(KH v o).add p=KH v (o+p):=by
 unfold KH;split
 .exact Pe _ _ _
 .unfold Addr.add;split<;>simp_all
theorem eM (b a o:Nat):(⟨b,a,none⟩:Addr).add o=⟨b,a+o,none⟩:=by
 unfold Addr.add;split<;>simp_all
def bH (b:Nat) (cs:V6 V0) (T:V9):aZ where
 p w F:=F b/\w.heap[b]? = some (.cells cs.toArray T (0,0))
 mono:=fun⟨c,a⟩ h=>by
  obtain⟨d,e⟩:=h b c (zAh.1 a).1;exact⟨d,by rw[e];exact a⟩
theorem bH.cell {b:Nat} {cs:V6 V0} {T:V9} {w:V2} {F:Nat->Prop} (h:(bH b cs T).p w F) {o:Nat} {v:V0} (a:cs[o]? = some v):w.cell? ⟨b,o,none⟩=some v:=by
 simp[World.cell?,h.2,a]
theorem Rf {b:Nat} {a:V6 V0} {T:V9} {w:V2} {F:Nat->Prop} (h:(bH b a T).p w F) (o:Nat):w.frozen? ⟨b,o,none⟩=false:=by
 simp[World.frozen?,h.2]
theorem St.res {c:wJ} {M L:V6 aZ} {w:V2} (t:St c M L w) {i:Nat} {m:aZ} (h:M[i]? = some m):∃F,m.p w F:=by
 obtain⟨_,F,a,_⟩:=t;exact⟨_,a.res i m h⟩
theorem St.fact {c:wJ} {M L:V6 aZ} {w:V2} (t:St c M L w) {f:aZ} (h:f∈L):∃S,f.p w S:=by
 obtain⟨_,F,_,a⟩:=t;exact⟨_,a f h⟩
structure eD (α:Type) where
 sz:Nat
 pos:0<sz
 R:World->(Nat->Prop)->List V0->α->Prop
 len:∀{w S cs x},R w S cs x->cs.length=sz
 mono:∀{w w':World} {S S':Nat->Prop} {cs x},R w S cs x->(∀k,S k->k<w.heap.size->S' k/\w'.heap[k]? = w.heap[k]?)->R w' S' cs x
def Fc {h:Type} (r:eD h) (w:V2) (S:Nat->Prop) (v:V0) (f:V6 h):Prop:=
 ∃a c,v = .slice a f.length c/\(f.length<=9223372036854775807/\f.length<=c)/\(f=[]\/∃b d,a=some ⟨b,d,none⟩/\S b/\
  ∀i x,f[i]? = some x->∃g,(∀j e,g[j]? = some e->w.cell? ⟨b,d+(i*r.sz+j),none⟩=some e)/\r.R w S g x)
theorem Ya {w a:V2} {b o:Nat} {e:V0} (h:w.cell? ⟨b,o,none⟩=some e) (c:a.heap[b]? = w.heap[b]?):a.cell? ⟨b,o,none⟩=some e:=by
 rw[<-h];exact World.cell?_of_block c
theorem Vl {w:V2} {b o:Nat} {e:V0} (h:w.cell? ⟨b,o,none⟩=some e):b<w.heap.size:=World.block_lt_of_cell? w _ h
theorem Fc.mono {q:Type} {r:eD q} {w w':V2} {S p:Nat->Prop} {v:V0} {f:V6 q} (h:Fc r w S v f)
  (e:∀k,S k->k<w.heap.size->p k/\w'.heap[k]? = w.heap[k]?):Fc r w' p v f:=by
 obtain⟨a,g,C,z,h⟩:=h;refine⟨a,g,C,z,?_⟩
 rcases h with h|⟨b,o,y,t,h⟩
 .exact .inl h
 .cases f with
  |nil=>exact .inl Z
  |cons F f=>
   obtain⟨d,c,n⟩:=h 0 F Z;have G:=r.len n;have A:=r.pos;have s:d[0]? = some (d[0]'V7):=zA0 _;have m:=Vl (c 0 _ s);obtain⟨l,D⟩:=e b t m;refine .inr ⟨b,o,y,l,λi x E=> ?_⟩;obtain⟨d,c,n⟩:=h i x E;exact⟨d,λj u B=>Ya (c j u B) D,r.mono n e⟩
def Sl {a:Type} (r:eD a) (v:V0) (b:V6 a):aZ where
 p w S:=Fc r w S v b
 mono:=λh e=>h.mono e
def eD.int (k:IntKind):eD Int where
 sz:=1
 pos:=Nat.one_pos
 R _ _ cs x:=cs=[.int k x]
 len h:=by simp[h]
 mono h _:=h
def eD.sl {a:Type} (r:eD a):eD (V0×V6 a) where
 sz:=1
 pos:=Nat.one_pos
 R w S cs x:=cs=[x.1]/\Fc r w S x.1 x.2
 len h:=by simp[h.1]
 mono h e:=⟨h.1,h.2.mono e⟩
def eD.pair {g i:Type} (r:eD g) (s:eD i):eD (g×i) where
 sz:=r.sz+s.sz
 pos:=zAv r.pos (Nat.le_add_right _ _)
 R w S cs x:=∃a b,cs=a++b/\r.R w S a x.1/\s.R w S b x.2
 len h:=by obtain⟨a,b,f,c,d⟩:=h;simp[f,r.len c,s.len d]
 mono h e:=by obtain⟨a,b,f,c,d⟩:=h;exact⟨a,b,f,r.mono c e,s.mono d e⟩
def eD.Cell {a:Type} (r:eD a) (j:Nat) (f:a->V0):Prop:=∀{w S es x},r.R w S es x->es[j]? = some (f x)
theorem Ia (k:IntKind):(eD.int k).Cell 0 (λx=> .int k x):=λh=>by simp[show _=[_]from h]
theorem eD.sl_cell {a:Type} (r:eD a):(eD.sl r).Cell 0 (λx=>x.1):=λh=>by simp[h.1]
theorem qP {b e:Type} {r:eD b} {s:eD e} {j:Nat} {f:b->V0} (h:r.Cell j f):(r.pair s).Cell j (λx=>f x.1):=by
 rintro w S i x ⟨c,g,rfl,d,_⟩;have:=h d;rw[zAc (by
  rcases zAr j c.length with a|a
  .exact a
  .rw[zAp a]at this;cases this)]
 exact this
theorem dX {d b:Type} {r:eD d} {s:eD b} {j:Nat} {f:b->V0} (h:s.Cell j f):(r.pair s).Cell (r.sz+j) (λx=>f x.2):=by
 rintro w S i x ⟨e,g,rfl,a,c⟩;rw[zAb (by rw[r.len a];omega),r.len a,Nat.add_sub_cancel_left];exact h c
section
variable {P:Program} {rd:V1 Nat} {c:wJ} {n:Sz} {σ:Fr} {M L:V6 aZ}
variable {d:V1 Tmp} {ty:V9} {pos:String} {aft:Array Edge} {g:V1 (Nat×V4)}
variable {α:Type} {r:eD α}
theorem QE {T:V9} {e:Ty} {E:V9} (w:V2) (f:tM P T e) (h:e.desc = .slice E) (a:V1 Addr) (k b:Nat) (ty:V9):
  (Builtin.len_ #[T] ty #[.slice a k b]).run P w = .ok (.int .i64 k) w:=by
 simp[Builtin.len_,f.run_und w,h,goInt]
theorem JP {T E:V9} {h f:Ty} (w:V2) (o:tM P T h) (p:h.desc = .slice E) (m:tM P E f) (b e k a:Nat) (i:Int) (j:0<=i) (l:i<k):
  (Instr.indexAt T (.slice (some ⟨b,e,none⟩) k a) (.int .i64 i)).run P w = .ok (Er (.slice (some ⟨b,e,none⟩) k a) (i.toNat*f.size)) w:=by
 simp[Instr.indexAt,asIntOf,o.run_und w,p,m.run_size w,j,l,Er,KH]
theorem nT [cO P] {T:V9} {D E h F:Nat} {z H:V0} {i:Array Field} {B G C:String} {m:V4} {j b k:Nat} {l:TypeDesc} {x:V3} {v:V0} {o f:Nat} (A:ev σ x=some (Er v o))
  (u:cO.tab P T=some ⟨.struct i,D,E,z⟩) (y:i[f]? = some ⟨B,j,b,m,G,C,k⟩) (q:cO.tab P j=some ⟨l,h,F,H⟩) (p:(h==0)=false):
  Y P c n σ M L ⟨d,.fieldAddr T x f,ty,pos,aft,g⟩ (Er v (o+b)):=λa w s t=>by
 have e:h≠0:=by simpa using p
 simp[execOp,s.eval A,Instr.fieldAt,(cO.ok u).run_und w,y,Instr.sureAddr,Er,fieldPlace,(cO.ok q).run_size w,e,Lg]
theorem AE {T:V9} {a:Ty} {w:V2} (b:tM P T a) (f:yA a.desc=false) {A:Addr} {e:V0} (h:w.cell? A=some e):
  (Instr.loadAt T (.pointer (some A))).run P w = .ok e w:=by
 simp[Instr.loadAt,Instr.sureAddr,loadVar,b.run_agg w,f,load,Sem.run,h]
theorem sl_cell {w:V2} {S:Nat->Prop} {v:V0} {l:V6 α} (h:Fc r w S v l) {i:Nat} {x:α} (k:l[i]? = some x):
  ∃a,r.R w S a x/\∀j e,a[j]? = some e->w.cell? (KH v (i*r.sz+j))=some e:=by
 obtain⟨t,m,q,_,h⟩:=h;rcases h with h|⟨b,s,rfl,_,h⟩
 .subst h;simp at k
 .obtain⟨a,f,p⟩:=h i x k;refine⟨a,p,λj e o=> ?_⟩
  subst q;simp only[KH,eM];exact f j e o
end
section
variable {P:Program} {rd:V1 Nat} {c:wJ} {n:Sz} {σ:Fr} {M L:V6 aZ} {Q:Exit->Act->V2->Prop} {ops:Array V5} {rest:V6 V5}
variable {d:V1 Tmp} {D:Nat} {ty:V9} {pos:String} {aft:Array Edge} {g:V1 (Nat×V4)}
theorem cV [cO P] {T:V9} {C E i F:Nat} {z H:V0} {j:Array Field} {A G B:String} {p:V4} {k e l:Nat} {m:TypeDesc} {x:V3} {b o f:Nat} (y:ev σ x=some (.pointer (some ⟨b,o,none⟩)))
  (u:cO.tab P T=some ⟨.struct j,C,E,z⟩) (v:j[f]? = some ⟨A,k,e,p,G,B,l⟩) (r:cO.tab P k=some ⟨m,i,F,H⟩) (q:(i==0)=false):
  Y P c n σ M L ⟨d,.fieldAddr T x f,ty,pos,aft,g⟩ (.pointer (some ⟨b,o+e,none⟩)):=λa w s t=>by
 have h:i≠0:=by simpa using q
 simp[execOp,s.eval y,Instr.fieldAt,(cO.ok u).run_und w,v,Instr.sureAddr,fieldPlace,(cO.ok r).run_size w,h,eM]
theorem eB [cO P] (i:Nat) {T f:V9} {q r:Nat} {z:V0} {e:TypeDesc} {x:V3} {b o:Nat} {cs:V6 V0} {v:V0} (p:ev σ x=some (.pointer (some ⟨b,o,none⟩)))
  (j:M[i]? = some (bH b cs f)) (k:cO.tab P T=some ⟨e,q,r,z⟩) (l:yA e=false) (m:cs[o]? = some v):
  Y P c n σ M L ⟨d,.load T x,ty,pos,aft,g⟩ v:=λa w s t=>by
 obtain⟨F,h⟩:=t.res j;simp[execOp,s.eval p,AE (cO.ok k) l (bH.cell h m)]
theorem Bi {T:V9} {a:Ty} {w:V2} (b:tM P T a) (e:yA a.desc=true) {A:Addr} {cs:V6 V0} (f:cs.length=a.size) (h:∀j v,cs[j]? = some v->w.cell? (A.add j)=some v):
  (Instr.loadAt T (.pointer (some A))).run P w = .ok (.agg cs.toArray) w:=by
 have:=run_loadCells_list (P:=P) w A cs h;simp[Instr.loadAt,Instr.sureAddr,loadVar,b.run_agg w,e,b.run_size w,<-f,this]
theorem fZ [cO P] (i:Nat) {T f:V9} {q:Nat} {z:V0} {e:TypeDesc} {x:V3} {b:Nat} {cs:V6 V0} (p:ev σ x=some (.pointer (some ⟨b,0,none⟩)))
  (k:M[i]? = some (bH b cs f)) (l:cO.tab P T=some ⟨e,cs.length,q,z⟩) (m:yA e=true):
  Y P c n σ M L ⟨d,.load T x,ty,pos,aft,g⟩ (.agg cs.toArray):=λa w s t=>by
 obtain⟨F,h⟩:=t.res k;have:=Bi (w:=w) (A:=⟨b,0,none⟩) (cs:=cs) (cO.ok l) m Z (λj v o=>by rw[eM,Nat.zero_add];exact bH.cell h o);simp[execOp,s.eval p,this]
theorem St.alloc {w:V2} (t:St c M L w) (cs:V6 V0) (T:V9):St c (bH w.heap.size cs T::M) L (w.alloc (.cells cs.toArray T)):=by
 have e:Ph w (w.alloc (.cells cs.toArray T)):=(Below.refl _ _).alloc (zAg _) _;obtain⟨s,F,a,u⟩:=t;have r:∀k,k<w.heap.size->(w.alloc (.cells cs.toArray T)).heap[k]? = w.heap[k]? := e.block;refine⟨s.trans e,λi k=>match i with|0=>k=w.heap.size|i+1=>F i k,⟨?_,?_,?_⟩,λf v=> ?_⟩
 .intro i m q;cases i with
  |zero=>
   simp at q;subst q;exact⟨rfl,heap_alloc_new w _⟩
  |succ i=>exact aZ.same (a.res i m (by simpa using q)) (λ_ h=>h) (λk _ p=>r k p)
 .intro i k l;cases i with
  |zero=>subst l;exact⟨.inl s.size,V8⟩
  |succ i=>exact⟨(a.rng i k l).1,zAv (a.rng i k l).2 e.size⟩
 .intro i j k b o;cases i with
  |zero=>
   cases j with
   |zero=>rfl
   |succ j=>have:=(a.rng j k o).2;simp only at b;omega
  |succ i=>
   cases j with
   |zero=>have:=(a.rng i k b).2;simp only at o;omega
   |succ j=>exact congrArg (· + 1) (a.dis i j k b o)
 .exact f.mono (u f v) λk l p=>⟨⟨l.1,λi b=>by
   cases i with
   |zero=>simp only at b;omega
   |succ i=>exact l.2 i b⟩,r k p⟩
theorem JO {T:V9} {a:Ty} (w:V2) (b:tM P T a):(Instr.alloc T true (.tuple #[])).run P w = .ok (.pointer (some ⟨w.heap.size,0,none⟩)) (w.alloc (.cells a.zero.cells T)):=by
 simp[Instr.alloc,b.run_zero w,newVar,newRow]
theorem Gp {w s:V2} {F:Nat->Nat->Prop} (t:DI c.O c.w0 w) (l:Own c w M F) (S:∀f∈L,f.p w (Dk c F)) {i:Nat} {m R:aZ} (N:M[i]? = some m) (I:s.os=w.os) (J:s.tape=w.tape) (v:s.output=w.output) (u:w.heap.size<=s.heap.size)
  (B:∀k,k<w.heap.size->¬F i k->s.heap[k]? = w.heap[k]?) {F':Nat->Prop} (A:R.p s F') (b:∀k,F' k->F i k\/(w.heap.size<=k/\k<s.heap.size)):St c (M.set i R) L s:=by
 refine⟨⟨I.trans t.os,J.trans t.tape,v.trans t.output,zB4 t.size u,λk a K=>(B k (zAv a t.size) (λE=>(l.rng i k E).1.elim (λh=>V7) K)).trans (t.block k a K)⟩,λj k=>(j=i/\F' k)\/(j≠i/\F j k),⟨?_,?_,?_⟩,λf T=> ?_⟩
 .intro j U x;by_cases e:j=i
  .subst e;have H:j<M.length:=by
    rcases zAr j M.length with o|o
    .exact o
    .rw[zAp o]at N;cases N
   rw[zAj H]at x;cases x;exact aZ.same A (λk a=> .inl ⟨rfl,a⟩) (λ_ _ _=>rfl)
  .rw[zAq (Ne.symm e)]at x;exact aZ.same (l.res j U x) (λk a=> .inr ⟨e,a⟩) (λk a G=>B k G (λC=>e (l.dis j i k a C)))
 .rintro j k (⟨_,a⟩|⟨_,a⟩)
  .rcases b k a with a|⟨q,r⟩
   .exact⟨(l.rng i k a).1,zAv (l.rng i k a).2 u⟩
   .exact⟨.inl (zB4 t.size q),r⟩
  .exact⟨(l.rng j k a).1,zAv (l.rng j k a).2 u⟩
 .rintro V W k (⟨y,q⟩|⟨y,q⟩) (⟨z,r⟩|⟨z,r⟩)
  .rw[y,z]
  .rcases b k q with q|⟨q,_⟩
   .exact absurd (l.dis _ _ k r q) z
   .have:=(l.rng _ k r).2;omega
  .rcases b k r with r|⟨r,_⟩
   .exact absurd (l.dis _ _ k q r) y
   .have:=(l.rng _ k q).2;omega
  .exact l.dis _ _ k q r
 .exact f.mono (S f T) λk a G=>⟨⟨a.1,by
   rintro j (⟨_,o⟩|⟨_,o⟩)
   .rcases b k o with o|⟨o,_⟩
    .exact a.2 _ o
    .omega
   .exact a.2 _ o⟩,B k G (a.2 i)⟩
theorem St.upd {w w':V2} (t:St c M L w) {i:Nat} {m s:aZ} (r:M[i]? = some m) (l:w'.os=w.os) (q:w'.tape=w.tape) (a:w'.output=w.output) (o:w.heap.size<=w'.heap.size)
  (h:∀F,m.p w F->(∀k,F k->c.mine k/\k<w.heap.size)->(∀k,k<w.heap.size->¬F k->w'.heap[k]? = w.heap[k]?)/\∃e,s.p w' e/\∀k,e k->F k\/(w.heap.size<=k/\k<w'.heap.size)):
  St c (M.set i s) L w':=by
 obtain⟨x,F,f,u⟩:=t;obtain⟨v,e,j,b⟩:=h (F i) (f.res i m r) (f.rng i);exact Gp x f u r l q a o v j b
end
section
variable {P:Program} {rd:V1 Nat} {c:wJ} {n:Sz} {σ:Fr} {M L:V6 aZ} {Q:Exit->Act->V2->Prop} {ops:Array V5} {rest:V6 V5}
variable {d:V1 Tmp} {D:Nat} {ty:V9} {pos:String} {aft:Array Edge} {g:V1 (Nat×V4)}
def one:V0->V4
 | .agg _ | .tuple _=>false
 |_=>true
theorem f_ {v:V0} (h:one v=true):v.cells = #[v]:=by cases v<;>first|rfl|cases h
theorem nR {v:V0} (h:one v=true):v.oneCell'=true:=by cases v<;>first|rfl|cases h
theorem Iv {w:V2} {b o:Nat} {a:V6 V0} {T:V9} (h:w.heap[b]? = some (.cells a.toArray T (0,0))) (v:V0):
  (w.setCell ⟨b,o,none⟩ v).heap[b]? = some (.cells (a.set o v).toArray T (0,0)):=by
 simp[World.setCell,Array.getElem?_modify,h]
theorem St.store {w:V2} (t:St c M L w) {i b o:Nat} {f:V6 V0} {T:V9} (j:M[i]? = some (bH b f T)) (v:V0):
  St c (M.set i (bH b (f.set o v) T)) L (w.setCell ⟨b,o,none⟩ v):=
 t.upd j Z Z Z (by simp[World.setCell]) λF a _=>⟨λk _ l=>Below.heap_setCell _ _ _ _ (λe=>l (by simp only at e;subst e;exact a.1)),
  F,⟨a.1,Iv a.2 v⟩,λ_ h=> .inl h⟩
theorem EE {T:V9} {b:Ty} {w:V2} (j:tM P T b) (l:b.size=1) {A:Addr} {v e:V0} (f:one v=true) (h:w.cell? A=some e) (k:w.frozen? A=false):
  (Instr.storeAt T (.pointer (some A)) v).run P w = .ok () (w.setCell A v):=by
 have i:A.add 0=A:=rfl;have a:(store A v).run P w = .ok () (w.setCell A v):=by
  unfold store;cases v<;>first|(simp only[Sem.run,h,k];rfl)|cases f
 simp only[Instr.storeAt,Instr.sureAddr,storeVar,f_ f];simp[j.run_size w,l,storeCells,i,a]
theorem fS [cO P] (i:Nat) {T j:V9} {B:Nat} {z:V0} {m:TypeDesc} {x y:V3} {b o:Nat} {cs:V6 V0} {v:V0} (u:ev σ x=some (.pointer (some ⟨b,o,none⟩)))
  (A:ev σ y=some v) (r:one v=true) (l:M[i]? = some (bH b cs j)) (p:cO.tab P T=some ⟨m,1,B,z⟩) (q:Nat.blt o cs.length=true)
  (h:J c n σ (M.set i (bH b (cs.set o v) j)) L (wpList P ops Q rest)):
  J c n σ M L (wpList P ops Q (⟨none,.store T x y,ty,pos,aft,none⟩::rest)):=λa w s t=>by
 refine mQ Z ?_;obtain⟨F,k⟩:=t.res l;have f:o<cs.length:=by simpa [zAy]using q
 have e:(execOp a.eval ⟨none,.store T x y,ty,pos,aft,none⟩).run P w = .ok .skip (w.setCell ⟨b,o,none⟩ v):=by
  simp[execOp,s.eval u,s.eval A,EE (cO.ok p) Z r (bH.cell k (zA0 f)) (Rf k o)]
 simp only[Oper.wp,e,Oper.upon];exact h _ _ s (t.store l v)
theorem St.fill {w:V2} (t:St c M L w) {i b:Nat} {cs a:V6 V0} {T:V9} (j:M[i]? = some (bH b cs T)):
  St c (M.set i (bH b a T)) L (w.setRow b a.toArray):=
 t.upd j Z Z Z V8 λF f _=>⟨λk _ l=>setRow_other w b k _ (λe=>l (by subst e;exact f.1)),
  F,⟨f.1,setRow_heap w b _ _ T _ f.2⟩,λ_ h=> .inl h⟩
theorem bQ [cO P] (i:Nat) {T k:V9} {H:Nat} {z:V0} {r:TypeDesc} {x y:V3} {b:Nat} {cs vs:V6 V0} (E:ev σ x=some (.pointer (some ⟨b,0,none⟩)))
  (G:ev σ y=some (.agg vs.toArray)) (C:vs.all one=true) (q:M[i]? = some (bH b cs k)) (A:cO.tab P T=some ⟨r,vs.length,H,z⟩) (B:Nat.beq vs.length cs.length=true)
  (h:J c n σ (M.set i (bH b vs k)) L (wpList P ops Q rest)):
  J c n σ M L (wpList P ops Q (⟨none,.store T x y,ty,pos,aft,none⟩::rest)):=λa w s t=>by
 refine mQ Z ?_;obtain⟨F,u⟩:=t.res q;have e:vs.length=cs.length:=zA6 B;have f:∀v∈vs,v.oneCell'=true:=λv p=>nR (by simpa using zA7.1 C v p);obtain⟨I,l,o,_,_⟩:=(cO.ok A).info;have m:=run_storeVar_row (P:=P) w b k T cs.toArray vs.toArray u.2 (by simp[l,o]) (by simp[e]) (by simpa using f);have j:(execOp a.eval ⟨none,.store T x y,ty,pos,aft,none⟩).run P w = .ok .skip (w.setRow b vs.toArray):=by
  simp[execOp,s.eval E,s.eval G,Instr.storeAt,Instr.sureAddr,m]
 simp only[Oper.wp,j,Oper.upon];exact h _ _ s (t.fill q)
def a_ (P:Program) (f:FuncId) (a:Array V0) (L:V6 aZ) {A:Type} (b:A->V0) (k LO:A->V6 aZ->V6 aZ):Prop:=
 ∀(i:V2) (j:Nat->Prop),(∀h∈L,h.p i j)->Calls P f a i λe l=>∃x:A,e = .returned (b x)/\St ⟨i,j,λ_=>False⟩ (k x []) (LO x []) l
def ajF (m:Nat) (a F:Nat->Nat->Prop) (i k:Nat):Prop:=(i<m/\a i k)\/(m<=i/\F (i - m) k)
theorem Own.new {w:V2} {M:V6 aZ} {F:Nat->Nat->Prop} {a:V2} {b:Nat->Prop} (h:Own ⟨a,b,λ_=>False⟩ w M F) {i k:Nat} (e:F i k):a.heap.size<=k:=by
 rcases(h.rng i k e).1 with h|h
 .exact h
 .exact h.elim
theorem St.call {w w':V2} {v C:V6 aZ} {F:Nat->Nat->Prop} (B:DI c.O c.w0 w) (q:Own c w M F) (G:∀f∈L,f.p w (Dk c F))
  (t:St ⟨w,Dk c F,λ_=>False⟩ v C w'):St c (v++M) (C++L) w':=by
 obtain⟨o,F',a,y⟩:=t;have o:=o.ext;have E:=o.block;refine⟨B.trans o,ajF v.length F' F,⟨?_,?_,?_⟩,λf hf=> ?_⟩
 .intro i m x;by_cases e:i<v.length
  .rw[zAc e]at x;exact aZ.same (a.res i m x) (λk b=> .inl ⟨e,b⟩) (λ_ _ _=>rfl)
  .rw[zAb V7]at x;exact aZ.same (q.res _ m x) (λk b=> .inr ⟨V7,b⟩) (λk _ z=>E k z)
 .rintro i k (⟨_,b⟩|⟨_,b⟩)
  .exact⟨.inl (zB4 B.size (a.new b)),(a.rng i k b).2⟩
  .exact⟨(q.rng _ k b).1,zAv (q.rng _ k b).2 o.size⟩
 .rintro i j k (⟨e,r⟩|⟨e,r⟩) (⟨H,s⟩|⟨H,s⟩)
  .exact a.dis i j k r s
  .have:=a.new r;have:=(q.rng _ k s).2;simp only at *;omega
  .have:=a.new s;have:=(q.rng _ k r).2;simp only at *;omega
  .have:=q.dis _ _ k r s;omega
 .rcases zBa.1 hf with hf|hf
  .refine aZ.same (y f hf) (λk b=> ?_) (λ_ _ _=>rfl);obtain⟨u,A⟩:=b;have l:Dk c F k\/w.heap.size<=k:=by
    rcases u with h|h|h
    .exact .inl h
    .exact .inr h
    .exact h.elim
   refine⟨?_,?_⟩
   .rcases l with h|h
    .exact h.1
    .exact .inr (.inl (zB4 B.size h))
   .rintro i (⟨_,e⟩|⟨_,e⟩)
    .exact A i e
    .rcases l with h|h
     .exact h.2 _ e
     .have:=(q.rng _ k e).2;omega
  .refine f.mono (G f hf) λk b z=>⟨⟨b.1,?_⟩,E k z⟩
   rintro i (⟨_,e⟩|⟨_,e⟩)
   .have:=a.new e;omega
   .exact b.2 _ e
theorem evs {e:V6 V3} {b:V6 V0} {a:Act} (s:Hv n σ a) (h:e.map (ev σ)=b.map some):e.map a.eval=b:=by
 induction e generalizing b with
 |nil=>cases b<;>simp_all
 |cons x e f=>
  cases b with
  |nil=>simp at h
  |cons v b=>simp at h;simp[s.eval h.1,f h.2]
def aU (P:Program) (f:FuncId):Prop:=∀args w,(callFunc f args).run P w = .ok (.enter f args) w
def RD {A:Type} (c:wJ) (a:A->V0) (f b:A->V6 aZ->V6 aZ) (e:Ending) (w:V2):Prop:=∃x:A,e = .returned (a x)/\St c (f x []) (b x []) w
def yZ:Nat->V6 V0->Fr
 |_,[]=>[]
 |k,v::vs=>(k,v)::yZ (k+1) vs
theorem FA (a:V6 V0):∀k t v,lk (yZ k a) t=some v->k<=t/\a[t - k]? = some v:=by
 induction a with
 |nil=>intro k t v h;simp[yZ,lk]at h
 | cons u a ih =>
  intro k t v h;simp only[yZ,lk]at h;by_cases e:t=k
  .subst e;simp at h;subst h;simp
  .rw[oC e]at h;obtain⟨f,b⟩:=ih (k+1) t v h;refine⟨V7,?_⟩
   have:t - k=(t - (k+1))+1:=V7
   rw[this,List.getElem?_cons_succ];exact b
theorem a_.of {A:Type} {b:A->V0} {u s:A->V6 aZ->V6 aZ} {f:FuncId} {e:Func} {a:Code} {vs:V6 V0} {m:Nat}
  (p:P.funcs[f]? = some e) (y:e.body=some a) (C:e.ntmps=m) (B:Nat.ble vs.length m=true)
  (h:∀c:wJ,J c ⟨m,[]⟩ (yZ 0 vs) [] L (a.wpr none P (iX P e (RD c b u s)))):a_ P f vs.toArray L b u s:=λF w x=>by
 have q:vs.length<=m:=by simpa using B
 refine uV p y (h ⟨F,w,λ_=>False⟩ _ _ ⟨rfl,by simp[C,q],?_⟩ ⟨DI.refl _,λ_ _=>False,⟨?_,?_,?_⟩,?_⟩)
 .intro t v E;obtain⟨_,l⟩:=FA vs 0 t v E;rw[Nat.sub_zero]at l;have r:t<vs.length:=by
   rcases zAr t vs.length with o|o
   .exact o
   .rw[zAp o]at l;cases l
  rw[zBi (by simpa using r)];simpa using l
 .intro i m h;simp at h
 .intro i k h;exact h.elim
 .intro i j k h;exact h.elim
 .intro f p;exact aZ.same (x f p) (λk z=>⟨.inl z,λ_ h=>h⟩) (λ_ _ _=>rfl)
theorem agG {A:Type} {b:A->V0} {j i:A->V6 aZ->V6 aZ} {k:Func} (x:A) (e:Exit) (o:e = .ret\/e = .normal)
  (p:∀a w,Hv n σ a->St c M L w->(results k a.tmps).run P w = .ok (b x) w) (m:aX M (j x [])) (l:∀f∈i x [],f∈L) (h:n.ds=[]:=by rfl):
  J c n σ M L (iX P k (RD c b j i) e):=λa w s t=>
 body_end o (s.defers.trans h) (p a w s t) ⟨x,rfl,t.weak m l⟩
theorem acm [cO P] {T h:V9} {o:Nat} {z:V0} {e:TypeDesc} {w:V2} {b:Nat} {a:V6 V0} {F:Nat->Prop} (i:(bH b a h).p w F)
  (f:cO.tab P T=some ⟨e,a.length,o,z⟩) (k:yA e=true):(loadVar T ⟨b,0,none⟩).run P w = .ok (.agg a.toArray) w:=by
 have l:=run_loadCells_list (P:=P) w ⟨b,0,none⟩ a (λj v m=>by rw[eM,Nat.zero_add];exact bH.cell i m);simp[loadVar,(cO.ok f).run_agg w,k,(cO.ok f).run_size w,l]
end
end Go.Sx
namespace Go.Sx
open Go.Proofs
theorem ahX {P:Program} {T:Nat} {i:TypeInfo} (h:P.types[T]? = some i):P.info? T=some i:=by
 unfold Tables.info?;rw[if_pos (zAh.1 h).1];exact h
noncomputable def zOf (i:TypeInfo):V0:=i.zero.getD (.tuple #[])
def cL (d:TypeDesc) (s b:Nat) (i:TypeInfo):Ty:=⟨d,s,b,zOf i⟩
def y2:=cL t2.desc 1 8 t2
def y3:=cL t2.desc 1 8 t3
def y4:=cL t4.desc 1 1 t4
def y5:=cL t5.desc 1 1 t5
def y6:=cL t5.desc 1 1 t6
def y7:=cL t7.desc 4 24 t7
def y8:=cL t7.desc 4 24 t8
def y9:=cL t9.desc 1 16 t9
def y10:=cL t9.desc 1 16 t10
def y11:=cL t9.desc 1 16 t11
def y12:=cL t12.desc 1 8 t12
def y13:=cL t13.desc 2 24 t13
def y14:=cL t13.desc 2 24 t14
def y15:=cL t15.desc 1 8 t15
def y16:=cL t16.desc 1 8 t16
def y17:=cL t17.desc 1 8 t17
def y18:=cL t18.desc 1 8 t18
def y19:=cL t18.desc 1 8 t19
def y20:=cL t20.desc 1 16 t20
def y21:=cL t21.desc 1 4 t21
def y22:=cL t22.desc 1 24 t22
def y23:=cL t23.desc 6 88 t23
def y24:=cL t23.desc 6 88 t24
def y25:=cL t25.desc 1 8 t25
def y26:=cL t26.desc 1 24 t26
def y27:=cL t27.desc 2 48 t27
def y28:=cL t27.desc 2 48 t28
def y29:=cL t29.desc 1 8 t29
def y30:=cL t30.desc 1 24 t30
def y31:=cL t31.desc 1 24 t31
def y32:=cL t32.desc 3 64 t32
def y33:=cL t32.desc 3 64 t33
def y34:=cL t34.desc 1 8 t34
def y35:=cL t35.desc 1 8 t35
def y36:=cL t36.desc 1 24 t36
def y39:=cL t39.desc 1 24 t39
def y40:=cL t40.desc 1 24 t40
def y41:=cL t41.desc 3 72 t41
def y42:=cL t41.desc 3 72 t42
def y43:=cL t43.desc 1 24 t43
def y44:=cL t44.desc 2 16 t44
def y45:=cL t44.desc 2 16 t45
def y46:=cL t46.desc 5 32 t46
def y47:=cL t46.desc 5 32 t47
def y48:=cL t48.desc 1 8 t48
def y49:=cL t2.desc 1 8 t49
def y52:=cL t52.desc 1 24 t52
def y54:=cL t54.desc 1 24 t54
def y55:=cL t55.desc 1 4 t55
def y56:=cL t56.desc 5 40 t56
def y57:=cL t56.desc 5 40 t57
def y58:=cL t58.desc 8 112 t58
def y59:=cL t58.desc 8 112 t59
def y64:=cL t64.desc 1 8 t64
def y71:=cL t71.desc 6 56 t71
def y72:=cL t71.desc 6 56 t72
def y77:=cL t77.desc 1 8 t77
def y78:=cL t78.desc 1 8 t78
def y79:=cL t79.desc 3 24 t79
def y80:=cL t79.desc 3 24 t80
def y81:=cL t81.desc 1 8 t81
def y82:=cL t82.desc 1 8 t82
def y83:=cL t83.desc 7 136 t83
def y84:=cL t83.desc 7 136 t84
def y86:=cL t86.desc 1 8 t86
def y87:=cL t87.desc 1 8 t87
def y88:=cL t54.desc 1 24 t88
def y89:=cL t89.desc 1 8 t89
def y90:=cL t90.desc 5 56 t90
def y91:=cL t90.desc 5 56 t91
def y94:=cL t12.desc 1 8 t94
def y98:=cL t98.desc 1 8 t98
def amy:=cL t102.desc 1 24 t102
def amz:=cL t105.desc 1 8 t105
def amA:=cL t106.desc 1 24 t106
def amB:=cL t107.desc 3 64 t107
def amC:=cL t107.desc 3 64 t108
def amD:=cL t109.desc 7 152 t109
def amE:=cL t109.desc 7 152 t110
def amF:=cL t112.desc 1 8 t112
def amG:=cL t120.desc 1 8 t120
def amH:=cL t128.desc 1 8 t128
def amI:=cL t129.desc 1 8 t129
def amJ:=cL t134.desc 1 8 t134
def amK:=cL t136.desc 1 8 t136
def amL:=cL t138.desc 1 8 t138
def amM:=cL t139.desc 1 8 t139
def amN:=cL t143.desc 1 24 t143
def amO:=cL t146.desc 1 24 t146
def amP:=cL t147.desc 1 8 t147
def amQ:=cL t150.desc 1 8 t150
def amR:=cL t151.desc 1 8 t151
def amS:=cL t153.desc 4 32 t153
def amT:=cL t153.desc 4 32 t154
def amU:=cL t157.desc 2 16 t157
def amV:=cL t157.desc 2 16 t158
def amW:=cL t167.desc 1 24 t167
def amX:=cL t168.desc 1 24 t168
def amY:=cL t169.desc 3 64 t169
def amZ:=cL t169.desc 3 64 t170
def am_:=cL t176.desc 1 8 t176
def ana:=cL t177.desc 1 8 t177
def anb:=cL t179.desc 5 96 t179
def anc:=cL t179.desc 5 96 t180
def ane:=cL t182.desc 1 8 t182
def anf:=cL t184.desc 256 256 t184
def ang:=cL t185.desc 1 8 t185
def anh:=cL t186.desc 2 16 t186
def ani:=cL t196.desc 1 8 t196
def anj:=cL t196.desc 1 8 t197
def ank:=cL t201.desc 1 8 t201
def anl:=cL t203.desc 1 8 t203
def anm:=cL t204.desc 1 8 t204
def ann:=cL t207.desc 1 8 t207
def ano:=cL t210.desc 1 8 t210
def anp:=cL t212.desc 1 8 t212
def anq:=cL t214.desc 2 32 t214
def anr:=cL t214.desc 2 32 t215
def ans:=cL t216.desc 1 8 t216
def ant:=cL t219.desc 1 8 t219
def anu:=cL t221.desc 2 16 t221
def anv:=cL t221.desc 2 16 t222
def anw:=cL t223.desc 1 24 t223
def anx:=cL t224.desc 7 144 t224
def anz:=cL t224.desc 7 144 t225
def anA:=cL t239.desc 2 16 t239
def anB:=cL t239.desc 2 16 t240
def anC:=cL t243.desc 2 48 t243
def anD:=cL t243.desc 2 48 t244
def anE:=cL t246.desc 4 64 t246
def anF:=cL t246.desc 4 64 t247
def anG:=cL t249.desc 32 32 t249
def anH:=cL t251.desc 1 24 t251
def anI:=cL t255.desc 3 24 t255
def anJ:=cL t256.desc 1 8 t256
def anK:=cL t257.desc 1 8 t257
def anL:=cL t264.desc 24 192 t264
def anM:=cL t269.desc 4 40 t269
def anN:=cL t269.desc 4 40 t270
def anO:=cL t271.desc 0 0 t271
def anP:=cL t272.desc 0 0 t272
def anQ:=cL t272.desc 0 0 t273
def anR:=cL t5.desc 1 1 t274
def anS:=cL t5.desc 1 1 t275
def anT:=cL t276.desc 1 8 t276
def anU:=cL t277.desc 1 8 t277
def anV:=cL t21.desc 1 4 t278
def anW:=cL t21.desc 1 4 t279
def anX:=cL t280.desc 11 48 t280
def anY:=cL t280.desc 11 48 t281
noncomputable def tL {a:Type} (T i:Nat) (t:a):V1 a:=bif Nat.beq T i then some t else none
noncomputable def tN {c:Type} (T i:Nat) (a b:V1 c):V1 c:=bif Nat.blt T i then a else b
def vX (T:Nat):V1 Ty:=(tN T 107 (tN T 41 (tN T 20 (tN T 11 (tN T 6 (tN T 4 (tN T 3 (tL T 2 y2) (tL T 3 y3)) (tN T 5 (tL T 4 y4) (tL T 5 y5))) (tN T 8 (tN T 7 (tL T 6 y6) (tL T 7 y7)) (tN T 9 (tL T 8 y8) (tN T 10 (tL T 9 y9) (tL T 10 y10))))) (tN T 15 (tN T 13 (tN T 12 (tL T 11 y11) (tL T 12 y12)) (tN T 14 (tL T 13 y13) (tL T 14 y14))) (tN T 17 (tN T 16 (tL T 15 y15) (tL T 16 y16)) (tN T 18 (tL T 17 y17) (tN T 19 (tL T 18 y18) (tL T 19 y19)))))) (tN T 29 (tN T 24 (tN T 22 (tN T 21 (tL T 20 y20) (tL T 21 y21)) (tN T 23 (tL T 22 y22) (tL T 23 y23))) (tN T 26 (tN T 25 (tL T 24 y24) (tL T 25 y25)) (tN T 27 (tL T 26 y26) (tN T 28 (tL T 27 y27) (tL T 28 y28))))) (tN T 34 (tN T 31 (tN T 30 (tL T 29 y29) (tL T 30 y30)) (tN T 32 (tL T 31 y31) (tN T 33 (tL T 32 y32) (tL T 33 y33)))) (tN T 36 (tN T 35 (tL T 34 y34) (tL T 35 y35)) (tN T 39 (tL T 36 y36) (tN T 40 (tL T 39 y39) (tL T 40 y40))))))) (tN T 77 (tN T 52 (tN T 45 (tN T 43 (tN T 42 (tL T 41 y41) (tL T 42 y42)) (tN T 44 (tL T 43 y43) (tL T 44 y44))) (tN T 47 (tN T 46 (tL T 45 y45) (tL T 46 y46)) (tN T 48 (tL T 47 y47) (tN T 49 (tL T 48 y48) (tL T 49 y49))))) (tN T 58 (tN T 55 (tN T 54 (tL T 52 y52) (tL T 54 y54)) (tN T 56 (tL T 55 y55) (tN T 57 (tL T 56 y56) (tL T 57 y57)))) (tN T 64 (tN T 59 (tL T 58 y58) (tL T 59 y59)) (tN T 71 (tL T 64 y64) (tN T 72 (tL T 71 y71) (tL T 72 y72)))))) (tN T 87 (tN T 81 (tN T 79 (tN T 78 (tL T 77 y77) (tL T 78 y78)) (tN T 80 (tL T 79 y79) (tL T 80 y80))) (tN T 83 (tN T 82 (tL T 81 y81) (tL T 82 y82)) (tN T 84 (tL T 83 y83) (tN T 86 (tL T 84 y84) (tL T 86 y86))))) (tN T 94 (tN T 89 (tN T 88 (tL T 87 y87) (tL T 88 y88)) (tN T 90 (tL T 89 y89) (tN T 91 (tL T 90 y90) (tL T 91 y91)))) (tN T 102 (tN T 98 (tL T 94 y94) (tL T 98 y98)) (tN T 105 (tL T 102 amy) (tN T 106 (tL T 105 amz) (tL T 106 amA)))))))) (tN T 204 (tN T 154 (tN T 136 (tN T 112 (tN T 109 (tN T 108 (tL T 107 amB) (tL T 108 amC)) (tN T 110 (tL T 109 amD) (tL T 110 amE))) (tN T 128 (tN T 120 (tL T 112 amF) (tL T 120 amG)) (tN T 129 (tL T 128 amH) (tN T 134 (tL T 129 amI) (tL T 134 amJ))))) (tN T 146 (tN T 139 (tN T 138 (tL T 136 amK) (tL T 138 amL)) (tN T 143 (tL T 139 amM) (tL T 143 amN))) (tN T 150 (tN T 147 (tL T 146 amO) (tL T 147 amP)) (tN T 151 (tL T 150 amQ) (tN T 153 (tL T 151 amR) (tL T 153 amS)))))) (tN T 179 (tN T 168 (tN T 158 (tN T 157 (tL T 154 amT) (tL T 157 amU)) (tN T 167 (tL T 158 amV) (tL T 167 amW))) (tN T 170 (tN T 169 (tL T 168 amX) (tL T 169 amY)) (tN T 176 (tL T 170 amZ) (tN T 177 (tL T 176 am_) (tL T 177 ana))))) (tN T 186 (tN T 182 (tN T 180 (tL T 179 anb) (tL T 180 anc)) (tN T 184 (tL T 182 ane) (tN T 185 (tL T 184 anf) (tL T 185 ang)))) (tN T 197 (tN T 196 (tL T 186 anh) (tL T 196 ani)) (tN T 201 (tL T 197 anj) (tN T 203 (tL T 201 ank) (tL T 203 anl))))))) (tN T 249 (tN T 222 (tN T 214 (tN T 210 (tN T 207 (tL T 204 anm) (tL T 207 ann)) (tN T 212 (tL T 210 ano) (tL T 212 anp))) (tN T 216 (tN T 215 (tL T 214 anq) (tL T 215 anr)) (tN T 219 (tL T 216 ans) (tN T 221 (tL T 219 ant) (tL T 221 anu))))) (tN T 240 (tN T 224 (tN T 223 (tL T 222 anv) (tL T 223 anw)) (tN T 225 (tL T 224 anx) (tN T 239 (tL T 225 anz) (tL T 239 anA)))) (tN T 244 (tN T 243 (tL T 240 anB) (tL T 243 anC)) (tN T 246 (tL T 244 anD) (tN T 247 (tL T 246 anE) (tL T 247 anF)))))) (tN T 272 (tN T 257 (tN T 255 (tN T 251 (tL T 249 anG) (tL T 251 anH)) (tN T 256 (tL T 255 anI) (tL T 256 anJ))) (tN T 269 (tN T 264 (tL T 257 anK) (tL T 264 anL)) (tN T 270 (tL T 269 anM) (tN T 271 (tL T 270 anN) (tL T 271 anO))))) (tN T 277 (tN T 274 (tN T 273 (tL T 272 anP) (tL T 273 anQ)) (tN T 275 (tL T 274 anR) (tN T 276 (tL T 275 anS) (tL T 276 anT)))) (tN T 279 (tN T 278 (tL T 277 anU) (tL T 278 anV)) (tN T 280 (tL T 279 anW) (tN T 281 (tL T 280 anX) (tL T 281 anY)))))))))
theorem iG {T i s b:Nat} {u:TypeDesc} {I:TypeInfo} {d:Ty} (h:prog.underlying i=some u) (f:prog.types[i]? = some I) (g:I.size=s:=by rfl) (c:I.bytes=b:=by rfl) (j:I.zero=some (zOf I):=by rfl):tL T i (cL u s b I)=some d->tM prog T d:=by
 intro e;unfold tL at e;cases a:Nat.beq T i with
 |true=>rw[a]at e;cases e;rw[zA6 a];exact⟨h,I,ahX f,g,c,j⟩
 |false=>rw[a]at e;cases e
theorem iM {T i:Nat} {x y:V1 Ty} {d:Ty} (a:x=some d->tM prog T d) (b:y=some d->tM prog T d):tN T i x y=some d->tM prog T d:=by
 unfold tN;cases Nat.blt T i
 .exact b
 .exact a
theorem TK {T:Nat} {d:Ty}:vX T=some d->tM prog T d:=
 (iM (iM (iM (iM (iM (iM (iM (iG underlying2 type2) (iG underlying3 type3)) (iM (iG underlying4 type4) (iG underlying5 type5))) (iM (iM (iG underlying6 type6) (iG underlying7 type7)) (iM (iG underlying8 type8) (iM (iG underlying9 type9) (iG underlying10 type10))))) (iM (iM (iM (iG underlying11 type11) (iG underlying12 type12)) (iM (iG underlying13 type13) (iG underlying14 type14))) (iM (iM (iG underlying15 type15) (iG underlying16 type16)) (iM (iG underlying17 type17) (iM (iG underlying18 type18) (iG underlying19 type19)))))) (iM (iM (iM (iM (iG underlying20 type20) (iG underlying21 type21)) (iM (iG underlying22 type22) (iG underlying23 type23))) (iM (iM (iG underlying24 type24) (iG underlying25 type25)) (iM (iG underlying26 type26) (iM (iG underlying27 type27) (iG underlying28 type28))))) (iM (iM (iM (iG underlying29 type29) (iG underlying30 type30)) (iM (iG underlying31 type31) (iM (iG underlying32 type32) (iG underlying33 type33)))) (iM (iM (iG underlying34 type34) (iG underlying35 type35)) (iM (iG underlying36 type36) (iM (iG underlying39 type39) (iG underlying40 type40))))))) (iM (iM (iM (iM (iM (iG underlying41 type41) (iG underlying42 type42)) (iM (iG underlying43 type43) (iG underlying44 type44))) (iM (iM (iG underlying45 type45) (iG underlying46 type46)) (iM (iG underlying47 type47) (iM (iG underlying48 type48) (iG underlying49 type49))))) (iM (iM (iM (iG underlying52 type52) (iG underlying54 type54)) (iM (iG underlying55 type55) (iM (iG underlying56 type56) (iG underlying57 type57)))) (iM (iM (iG underlying58 type58) (iG underlying59 type59)) (iM (iG underlying64 type64) (iM (iG underlying71 type71) (iG underlying72 type72)))))) (iM (iM (iM (iM (iG underlying77 type77) (iG underlying78 type78)) (iM (iG underlying79 type79) (iG underlying80 type80))) (iM (iM (iG underlying81 type81) (iG underlying82 type82)) (iM (iG underlying83 type83) (iM (iG underlying84 type84) (iG underlying86 type86))))) (iM (iM (iM (iG underlying87 type87) (iG underlying88 type88)) (iM (iG underlying89 type89) (iM (iG underlying90 type90) (iG underlying91 type91)))) (iM (iM (iG underlying94 type94) (iG underlying98 type98)) (iM (iG underlying102 type102) (iM (iG underlying105 type105) (iG underlying106 type106)))))))) (iM (iM (iM (iM (iM (iM (iG underlying107 type107) (iG underlying108 type108)) (iM (iG underlying109 type109) (iG underlying110 type110))) (iM (iM (iG underlying112 type112) (iG underlying120 type120)) (iM (iG underlying128 type128) (iM (iG underlying129 type129) (iG underlying134 type134))))) (iM (iM (iM (iG underlying136 type136) (iG underlying138 type138)) (iM (iG underlying139 type139) (iG underlying143 type143))) (iM (iM (iG underlying146 type146) (iG underlying147 type147)) (iM (iG underlying150 type150) (iM (iG underlying151 type151) (iG underlying153 type153)))))) (iM (iM (iM (iM (iG underlying154 type154) (iG underlying157 type157)) (iM (iG underlying158 type158) (iG underlying167 type167))) (iM (iM (iG underlying168 type168) (iG underlying169 type169)) (iM (iG underlying170 type170) (iM (iG underlying176 type176) (iG underlying177 type177))))) (iM (iM (iM (iG underlying179 type179) (iG underlying180 type180)) (iM (iG underlying182 type182) (iM (iG underlying184 type184) (iG underlying185 type185)))) (iM (iM (iG underlying186 type186) (iG underlying196 type196)) (iM (iG underlying197 type197) (iM (iG underlying201 type201) (iG underlying203 type203))))))) (iM (iM (iM (iM (iM (iG underlying204 type204) (iG underlying207 type207)) (iM (iG underlying210 type210) (iG underlying212 type212))) (iM (iM (iG underlying214 type214) (iG underlying215 type215)) (iM (iG underlying216 type216) (iM (iG underlying219 type219) (iG underlying221 type221))))) (iM (iM (iM (iG underlying222 type222) (iG underlying223 type223)) (iM (iG underlying224 type224) (iM (iG underlying225 type225) (iG underlying239 type239)))) (iM (iM (iG underlying240 type240) (iG underlying243 type243)) (iM (iG underlying244 type244) (iM (iG underlying246 type246) (iG underlying247 type247)))))) (iM (iM (iM (iM (iG underlying249 type249) (iG underlying251 type251)) (iM (iG underlying255 type255) (iG underlying256 type256))) (iM (iM (iG underlying257 type257) (iG underlying264 type264)) (iM (iG underlying269 type269) (iM (iG underlying270 type270) (iG underlying271 type271))))) (iM (iM (iM (iG underlying272 type272) (iG underlying273 type273)) (iM (iG underlying274 type274) (iM (iG underlying275 type275) (iG underlying276 type276)))) (iM (iM (iG underlying277 type277) (iG underlying278 type278)) (iM (iG underlying279 type279) (iM (iG underlying280 type280) (iG underlying281 type281)))))))))

noncomputable instance:cO prog:=⟨vX,TK⟩
end Go.Sx
namespace Go.Sx
open Go.RowKit
section
variable {P:Program} {ops:Array V5} {Q:Exit->Act->V2->Prop}
def Us:Exit->Act->V2->Prop:=λ_ _ _=>False
theorem WX:¬LetsOut Us:=fun⟨_,_,h⟩=>h
theorem MP {o:V5} {a:Act} {w:V2} {K:Act->V2->Prop} (h:o.wp P a w K Us):o.wp P a w K Q:=by
 unfold Oper.wp at *
 generalize (execOp a.eval o).run P w=r at *
 cases r with
 | ok n c =>
  cases n<;>simp only[Oper.upon]at h ⊢ <;> first
   |exact h
   |exact Calls.mono h (λe d b=>by cases e<;>first|exact b|exact absurd b WX|exact b.elim)
 |halt x c=>cases x<;>simp only[Oper.upon]at h ⊢ <;> first|exact h|exact h.elim
def ZA (a b:Act) (d:V1 Tmp):Prop:=∃u c,b=({a with defers:=c}:Act).put d u
theorem abN {o:V5} {a:Act} {w:V2} {K:Act->V2->Prop} (h:o.wp P a w K Us):o.wp P a w (λj g=>K j g/\ZA a j o.dst) Us:=by
 unfold Oper.wp at *
 generalize (execOp a.eval o).run P w=r at *
 cases r with
 | ok n g =>
  cases n<;>simp only[Oper.upon]at h ⊢
  case value v=>exact⟨h,v,a.defers,rfl⟩
  case skip=>exact⟨h,undef,a.defers,rfl⟩
  case defer d=>exact⟨h,undef,d::a.defers,rfl⟩
  case enter f args=>
   refine Calls.mono h λe i b=> ?_;cases e with
   |returned v=>exact⟨b,v,a.defers,rfl⟩
   |panicked c=>exact b
   |outgrown=>exact b
  case row row args=>exact Rows.mono h λv i b=>⟨b,v,a.defers,rfl⟩
 |halt x g=>cases x<;>simp only[Oper.upon]at h ⊢ <;> exact h
theorem SZ {o:V5} {a:Act} {w:V2} {K:Act->V2->Prop} (h:o.wp P a w K Us):∃j g,K j g:=by
 unfold Oper.wp at *
 generalize (execOp a.eval o).run P w=r at *
 cases r with
 | ok n g =>
  cases n<;>simp only[Oper.upon]at h
  case value v=>exact⟨_,_,h⟩
  case skip=>exact⟨_,_,h⟩
  case defer d=>exact⟨_,_,h⟩
  case enter f args=>
   obtain⟨e,i,k,b,_⟩:=h [];cases e with
   |returned v=>exact⟨_,_,b⟩
   |panicked c=>exact b.elim
   |outgrown=>exact absurd b WX
  case row row args=>
   obtain⟨v,i,b,_⟩:=h default [];exact⟨_,_,b⟩
 |halt x g=>cases x<;>simp only[Oper.upon]at h<;>exact h.elim
theorem Xg {o:V5} {a:Act} {w:V2} {K:Act->V2->Prop} {d:V1 Tmp} {v:V0} (s:∀p b,o.op ≠ .select p b) (q:∀t,d=some t->t∉o.looksAt ops) (g:∀t,d=some t->o.dst≠some t)
  (h:o.wp P a w K Us):o.wp P (a.put d v) w (λm j=>∃l,K l j/\m=l.put d v) Us:=by
 unfold Oper.wp at *
 rw[execOp_put (ops:=ops) o s a d v q];have y:(a.put d v).defers=a.defers:=by cases d<;>rfl
 generalize (execOp a.eval o).run P w=r at *
 cases r with
 | ok n j =>
  cases n<;>simp only[Oper.upon]at h ⊢
  case value u=>exact⟨_,h,Act.put_comm a v u g⟩
  case skip=>exact⟨_,h,Act.put_comm a v undef g⟩
  case defer e=>exact⟨_,h,by rw[Act.put_defers,Act.put_comm _ v undef g]⟩
  case enter f args=>
   refine Calls.mono h λe k i=> ?_;cases e with
   |returned u=>exact⟨_,i,Act.put_comm a v u g⟩
   |panicked c=>exact i
   |outgrown=>exact i
  case row row args=>exact Rows.mono h λu k i=>⟨_,i,Act.put_comm a v u g⟩
 |halt x j=>cases x<;>simp only[Oper.upon]at h ⊢ <;> exact h
theorem pW {o:V5} {a:Act} {w:V2} {K b:Act->V2->Prop} (c:∀a w,K a w->b a w) (h:o.wp P a w K Us):o.wp P a w b Us:=Oper.wp_mono c h
def RF (P:Program) (A:Nat->Nat->V4) (i:Nat) (o:V5) (a:Act) (w:V2) (H:V6 (Nat×V2)) (v:V0) (B:V2->Prop):Prop:=
 B w/\(∀l∈H,A i l.1=false->B l.2)/\∀b,B b->(execOp a.eval o).run P b = .ok (.value v) b
def RW (P:Program) (ops:Array V5) (Q:Exit->Act->V2->Prop) (A:Nat->Nat->V4) (c:Nat->V4) (d:Nat):V6 Nat->Act->V2->V6 (Nat×V2)->V6 (Nat×(V2->Prop))->Prop
 | [],a,w,_,_=>Q .normal a w
 | i :: rest, a, w, H, Bs =>
  match ops[i]? with
  |none=>False
  | some o =>
   if Region.wanted o (yielded ops a.tmps)then
    (d<=i/\(o.wp P a w (λf e=>RW P ops Q A c d rest f e H Bs) Q\/o.rnd P a w (λf e=>RW P ops Q A c d rest f e H Bs)))\/
    (i<d/\c i=false/\∃v B,RF P A i o a w H v B/\RW P ops Q A c d rest (a.put o.dst v) w H ((i,B)::Bs))\/
    (i<d/\c i=true/\o.wp P a w (λf e=>(∀b∈Bs,A i b.1=false->b.2 e)/\RW P ops Q A c d rest f e ((i,w)::H) Bs) Us)
   else RW P ops Q A c d rest (a.put o.dst undef) w H Bs
variable {A:Nat->Nat->V4} {loud:Nat->V4} {k0:Nat}
theorem adA:∀(L:V6 Nat) (a:Act) (w:V2) (H:V6 (Nat×V2)) (d c:V6 (Nat×(V2->Prop))),(∀b∈c,b∈d)->RW P ops Q A loud k0 L a w H d->RW P ops Q A loud k0 L a w H c:=by
 intro L
 induction L with
 |nil=>intro a w H d c _ h;exact h
 | cons i L ih =>
  intro a w H d c e h;simp only[RW]at h ⊢;cases l:ops[i]? with
  |none=>simp[l]at h
  | some o =>
   simp only[l]at h ⊢;split
   .rename_i k;rw[if_pos k]at h;rcases h with⟨f,h2⟩|⟨f,h2,v,B,j,m⟩|⟨f,h2,j⟩
    .refine .inl ⟨f,?_⟩;rcases h2 with h2|h2
     .exact .inl (Oper.wp_mono (λa w h=>ih a w H d c e h) h2)
     .exact .inr (Oper.rnd_mono (λa w h=>ih a w H d c e h) h2)
    .exact .inr (.inl ⟨f,h2,v,B,j,ih _ _ _ _ _ (λb g=>by
      rcases zAo.1 g with rfl|g
      .exact zAe
      .exact zAk _ (e b g)) m⟩)
    .exact .inr (.inr ⟨f,h2,pW (λa w h=>⟨λb g=>h.1 b (e b g),ih a w _ d c e h.2⟩) j⟩)
   .rename_i k;rw[if_neg k]at h;exact ih _ _ _ _ _ e h
structure LC (ops:Array Oper) (A:Nat->Nat->Bool) (loud:Nat->Bool) (x i:Nat):Prop where
 na:A i x=false
 nb:A x i=false
 apart:∀ox oi,ops[x]? = some ox->ops[i]? = some oi->ox.apart ops oi=true
 one:loud x=false\/loud i=false
theorem Oz {a c:Act} {o:V5} {d:V1 Tmp} (i:∀f b,o.op ≠ .select f b) (h:∀t,d=some t->t∉o.looksAt ops) (g:ZA a c d):execOp c.eval o=execOp a.eval o/\Region.wanted o (yielded ops c.tmps)=Region.wanted o (yielded ops a.tmps):=by
 obtain⟨u,e,rfl⟩:=g;refine⟨(execOp_put (ops:=ops) o i {a with defers:=e} d u h).trans Z,wanted_put o {a with defers:=e} d u h⟩
theorem RF.of_exec {i:Nat} {o:V5} {a b:Act} {w:V2} {H:V6 (Nat×V2)} {v:V0} {B:V2->Prop} (h:RF P A i o a w H v B) (e:execOp b.eval o=execOp a.eval o):RF P A i o b w H v B:=by
 obtain⟨c,d,f⟩:=h;exact⟨c,d,λj g=>by rw[e];exact f j g⟩
theorem Ha (t:∀(i:Nat) (o:V5),ops[i]? = some o->∀cs b,o.op ≠ .select cs b) {i:Nat} {o:V5} {Y:V6 Nat} (hi:ops[i]? = some o) (ad:i<k0) (aa:loud i=false):
  ∀(r:V6 Nat) (a:Act) (w:V2) (H:V6 (Nat×V2)) (G:V6 (Nat×(V2->Prop))),(∀x∈r,LC ops A loud x i/\x<k0)->RW P ops Q A loud k0 (r++i::Y) a w H G->
   (Region.wanted o (yielded ops a.tmps)=false/\RW P ops Q A loud k0 (r++Y) (a.put o.dst undef) w H G)\/
   (Region.wanted o (yielded ops a.tmps)=true/\∃v B,RF P A i o a w H v B/\RW P ops Q A loud k0 (r++Y) (a.put o.dst v) w H G):=by
 intro r
 induction r with
 | nil =>
  intro a w H G _ h;simp only[List.nil_append,RW,hi]at h;by_cases e:Region.wanted o (yielded ops a.tmps)=true
  .rw[if_pos e]at h;rcases h with⟨h,_⟩|⟨_,_,v,B,hv,h⟩|⟨_,h,_⟩
   .omega
   .exact .inr ⟨e,v,B,hv,adA _ _ _ _ _ _ (λb hb=>zAk _ hb) h⟩
   .rw[aa]at h;cases h
  .rw[if_neg e]at h;exact .inl ⟨by simpa using e,h⟩
 | cons x r ih =>
  intro a w H G hx h;obtain⟨D,q⟩:=hx x zAe;have k:∀y∈r,LC ops A loud y i/\y<k0:=λy hy=>hx y (zAk _ hy);simp only[List.cons_append,RW]at h ⊢;cases n:ops[x]? with
  |none=>simp[n]at h
  | some ox =>
   simp only[n]at h ⊢;obtain⟨p1,U,W⟩:=Oper.apart_spec (D.apart ox o n hi);have S:=t i o hi;have C:=t x ox n;have q2:∀(d:Tmp),o.dst=some d->ox.dst≠some d:=λd hd O=>U d O hd;have ex:∀(b:Act) u,execOp (b.put o.dst u).eval ox=execOp b.eval ox:=λb u=>execOp_put (ops:=ops) ox C b o.dst u W;have F:∀(b:Act) u,Region.wanted ox (yielded ops (b.put o.dst u).tmps)=Region.wanted ox (yielded ops b.tmps):=λb u=>wanted_put ox b o.dst u W;have ei:∀(b:Act) u,execOp (b.put ox.dst u).eval o=execOp b.eval o:=λb u=>execOp_put (ops:=ops) o S b ox.dst u p1;have X:∀(b:Act) u,Region.wanted o (yielded ops (b.put ox.dst u).tmps)=Region.wanted o (yielded ops b.tmps):=λb u=>wanted_put o b ox.dst u p1;by_cases e:Region.wanted ox (yielded ops a.tmps)=true
   .rw[if_pos e]at h;rcases h with⟨h,_⟩|⟨_,f,V,Bx,T,h⟩|⟨_,f,h⟩
    .omega
    .rcases ih _ w H _ k h with⟨c,z⟩|⟨c,v,B,z,h3⟩
     .rw[X]at c;refine .inl ⟨c,?_⟩;rw[if_pos (by rw[F];exact e)];exact .inr (.inl ⟨q,f,V,Bx,T.of_exec (ex a undef),by rw[<-Act.put_comm a V undef U];exact z⟩)
     .rw[X]at c;refine .inr ⟨c,v,B,z.of_exec (ei a V).symm,?_⟩;rw[if_pos (by rw[F];exact e)];exact .inr (.inl ⟨q,f,V,Bx,T.of_exec (ex a v),by rw[<-Act.put_comm a V v U];exact h3⟩)
    .have h':=abN h;obtain⟨a1,w1,⟨⟨_,ab⟩,m⟩⟩:=SZ h';have E:=λ{a':Act} (s:ZA a a' ox.dst)=>Oz (ops:=ops) S p1 s;rcases ih a1 w1 _ _ k ab with⟨c,_⟩|⟨c,v,B,⟨ac,J,L⟩,_⟩
     .have j:Region.wanted o (yielded ops a.tmps)=false:=by rw[<-(E m).2];exact c
      refine .inl ⟨j,?_⟩;rw[if_pos (by rw[F];exact e)];refine .inr (.inr ⟨q,f,?_⟩);refine pW ?_ (Xg (ops:=ops) (d:=o.dst) (v:=undef) C W q2 h');rintro a2 w2 ⟨a3,⟨⟨O,hr⟩,s⟩,rfl⟩;refine⟨O,?_⟩
      rcases ih a3 w2 _ _ k hr with⟨_,h5⟩|⟨I,_⟩
      .exact h5
      .rw[(E s).2,j]at I;cases I
     .have j:Region.wanted o (yielded ops a.tmps)=true:=by rw[<-(E m).2];exact c
      have N:B w:=J (x,w) zAe D.na;have R:(execOp a.eval o).run P w = .ok (.value v) w:=by rw[<-(E m).1];exact L w N
      refine .inr ⟨j,v,B,⟨N,λl s=>J l (zAk _ s),λw' p=>by rw[<-(E m).1];exact L w' p⟩,?_⟩;rw[if_pos (by rw[F];exact e)];refine .inr (.inr ⟨q,f,?_⟩);refine pW ?_ (Xg (ops:=ops) (d:=o.dst) (v:=v) C W q2 h');rintro a2 w2 ⟨a3,⟨⟨O,hr⟩,s⟩,rfl⟩;refine⟨O,?_⟩
      rcases ih a3 w2 _ _ k hr with⟨I,_⟩|⟨_,v',B',⟨_,K,M⟩,h5⟩
      .rw[(E s).2,j]at I;cases I
      .have g:=M w (K (x,w) zAe D.na);rw[(E s).1,R]at g;cases g;exact h5
   .rw[if_neg e]at h;have p:Region.wanted ox (yielded ops a.tmps)=false:=by simpa using e
    rcases ih _ w H _ k h with⟨c,z⟩|⟨c,v,B,z,h3⟩
    .rw[X]at c;refine .inl ⟨c,?_⟩;rw[if_neg (by rw[F,p];simp),<-Act.put_comm a undef undef U];exact z
    .rw[X]at c;refine .inr ⟨c,v,B,z.of_exec (ei a undef).symm,?_⟩;rw[if_neg (by rw[F,p];simp),<-Act.put_comm a undef v U];exact h3
theorem H_ (t:∀(i:Nat) (o:V5),ops[i]? = some o->∀cs b,o.op ≠ .select cs b) {i:Nat} {o:V5} {U:V6 Nat} (Y:ops[i]? = some o) (ac:i<k0) (K:loud i=true):
  ∀(q:V6 Nat) (a:Act) (w:V2) (H:V6 (Nat×V2)) (G:V6 (Nat×(V2->Prop))),(∀x∈q,LC ops A loud x i/\x<k0)->RW P ops Q A loud k0 (q++i::U) a w H G->
   (Region.wanted o (yielded ops a.tmps)=false/\RW P ops Q A loud k0 (q++U) (a.put o.dst undef) w H G)\/
   (Region.wanted o (yielded ops a.tmps)=true/\o.wp P a w (λI z=>(∀b∈G,A i b.1=false->b.2 z)/\RW P ops Q A loud k0 (q++U) I z ((i,w)::H) G) Us):=by
 intro q
 induction q with
 | nil =>
  intro a w H G _ h;simp only[List.nil_append,RW,Y]at h;by_cases j:Region.wanted o (yielded ops a.tmps)=true
  .rw[if_pos j]at h;rcases h with⟨h,_⟩|⟨_,h,_⟩|⟨_,_,h⟩
   .omega
   .rw[K]at h;cases h
   .exact .inr ⟨j,h⟩
  .rw[if_neg j]at h;exact .inl ⟨by simpa using j,h⟩
 | cons x q ih =>
  intro a w H G hx h;obtain⟨E,N⟩:=hx x zAe;have O:∀y∈q,LC ops A loud y i/\y<k0:=λy hy=>hx y (zAk _ hy);have D:loud x=false:=E.one.resolve_right (by rw[K];simp);simp only[List.cons_append,RW]at h ⊢;cases m:ops[x]? with
  |none=>simp[m]at h
  | some ox =>
   simp only[m]at h ⊢;obtain⟨p1,F,p3⟩:=Oper.apart_spec (E.apart ox o m Y);have aa:=t i o Y;have L:=t x ox m;have ex:∀(b:Act) u,execOp (b.put o.dst u).eval ox=execOp b.eval ox:=λb u=>execOp_put (ops:=ops) ox L b o.dst u p3;have wx:∀(b:Act) u,Region.wanted ox (yielded ops (b.put o.dst u).tmps)=Region.wanted ox (yielded ops b.tmps):=λb u=>wanted_put ox b o.dst u p3;have S:∀(b:Act) u,Region.wanted o (yielded ops (b.put ox.dst u).tmps)=Region.wanted o (yielded ops b.tmps):=λb u=>wanted_put o b ox.dst u p1;have lx:=λ{I:Act} (J:ZA a I o.dst)=>Oz (ops:=ops) L p3 J;have s:∀(u:V0) (Z:Act->V2->Prop),o.wp P (a.put ox.dst u) w Z Us->o.wp P a w (λI z=>ZA a I o.dst/\Z (I.put ox.dst u) z) Us:=by
    intro u Z k;unfold Oper.wp at *
    rw[execOp_put (ops:=ops) o aa a ox.dst u p1]at k;generalize (execOp a.eval o).run P w=r at *
    cases r with
    | ok n z =>
     cases n<;>simp only[Oper.upon]at k ⊢
     case value v=>exact⟨⟨v,a.defers,rfl⟩,by rw[<-Act.put_comm a u v F];exact k⟩
     case skip=>exact⟨⟨undef,a.defers,rfl⟩,by rw[<-Act.put_comm a u undef F];exact k⟩
     case defer e=>exact⟨⟨undef,e::a.defers,rfl⟩,by rw[<-Act.put_comm _ u undef F,<-Act.put_defers];exact k⟩
     case enter f args=>
      refine Calls.mono k λe ab g=> ?_;cases e with
      |returned v=>exact⟨⟨v,a.defers,rfl⟩,by rw[<-Act.put_comm a u v F];exact g⟩
      |panicked c=>exact g
      |outgrown=>exact g
     case row row args=>exact Rows.mono k λv ab g=>⟨⟨v,a.defers,rfl⟩,by rw[<-Act.put_comm a u v F];exact g⟩
    |halt y z=>cases y<;>simp only[Oper.upon]at k ⊢ <;> exact k
   by_cases j:Region.wanted ox (yielded ops a.tmps)=true
   .rw[if_pos j]at h;rcases h with⟨h,_⟩|⟨_,_,R,T,M,h⟩|⟨_,h,_⟩
    .omega
    .rcases ih _ w H _ O h with⟨d,B⟩|⟨d,B⟩
     .rw[S]at d;refine .inl ⟨d,?_⟩;rw[if_pos (by rw[wx];exact j)];exact .inr (.inl ⟨N,D,R,T,M.of_exec (ex a undef),by rw[<-Act.put_comm a R undef F];exact B⟩)
     .rw[S]at d;refine .inr ⟨d,pW ?_ (s R _ B)⟩;rintro a1 w1 ⟨J,g,hr⟩;refine⟨λb hb=>g b (zAk _ hb),?_⟩
      rw[if_pos (by rw[(lx J).2];exact j)];refine .inr (.inl ⟨N,D,R,T,?_,hr⟩);obtain⟨V,W,X⟩:=M;refine⟨g (x,T) zAe E.na,λl C hA=> ?_,λz p=>by rw[(lx J).1];exact X z p⟩
      rcases zAo.1 C with rfl|C
      .exact V
      .exact W l C hA
    .rw[D]at h;cases h
   .rw[if_neg j]at h;have p:Region.wanted ox (yielded ops a.tmps)=false:=by simpa using j
    rcases ih _ w H _ O h with⟨d,B⟩|⟨d,B⟩
    .rw[S]at d;refine .inl ⟨d,?_⟩;rw[if_neg (by rw[wx,p];simp),<-Act.put_comm a undef undef F];exact B
    .rw[S]at d;refine .inr ⟨d,pW ?_ (s undef _ B)⟩;rintro a1 w1 ⟨J,g,hr⟩;refine⟨g,?_⟩
     rw[if_neg (by rw[(lx J).2,p];simp)];exact hr
end
def vT (o:V5):V6 Nat:=(o.after.toList.filter (Region.binds .any)).map (·.on)
def qF (l:V6 V5):V6 Nat:=l.foldl (λa o=>a++[(vT o).foldl (λs e=>s ||| 2^e ||| a.getD e 0) 0]) []
def before (m:V6 Nat) (i j:Nat):V4:=(m.getD i 0).testBit j
def fI:Op->V4
 | .move _ | .assign _ | .pick .. | .build .. | .load .. | .binOp .. | .unOp .. | .convert .. | .fieldAddr .. | .field .. | .indexAddr .. | .index .. | .lookup .. | .extract .. | .slice .. | .makeFunc .. | .nilCheck .. => false
 | .call ⟨.builtin .len,_,_⟩ | .call ⟨.builtin .max,_,_⟩ | .call ⟨.builtin .min,_,_⟩ | .call ⟨.builtin .cap,_,_⟩=>false
 |_=>true
def DT:Op->V4
 | .select .. => true
 |_=>false
def eG (l:V6 V5) (i:Nat):V4:=((l[i]?).map λo=>fI o.op).getD false
def chk (l:V6 V5) (m:V6 Nat) (b:Nat):V4:=
  (List.range l.length).all λi=>match l[i]? with
    |none=>false
    | some o =>
      (vT o).all (λe=>Nat.blt e i&&before m i e&&(List.range i).all (λk=> !before m e k||before m i k)) &&
      (List.range l.length).all (λk=> !before m i k||(Nat.blt k i&&(vT o).any (λe=>Nat.beq e k||before m e k))) &&
      !DT o.op &&
      (if Nat.ble b i then(List.range i).all (λx=>before m i x)
       else(List.range i).all (λx=>before m i x||(match l[x]? with|none=>false|some a=>a.apart l.toArray o&&(!fI a.op || !fI o.op))))
structure Chk (l:List Oper) (m:List Nat) (k0:Nat):Prop where
 edge:∀(i:Nat) (o:Oper),l[i]? = some o->∀e∈vT o,e<i/\before m i e=true
 trans:∀(i:Nat) (o:Oper),l[i]? = some o->∀k,before m i k=true->k<l.length->k<i/\∃e∈vT o,e=k\/before m e k=true
 sel:∀(i:Nat) (o:Oper),l[i]? = some o->∀cs b,o.op ≠ .select cs b
 tail:∀i x,i<l.length->k0<=i->x<i->before m i x=true
 ind:∀(i x:Nat) (oi ox:Oper),l[i]? = some oi->l[x]? = some ox->i<k0->x<i->before m i x=false->ox.apart l.toArray oi=true/\(fI ox.op=false\/fI oi.op=false)
theorem bB {b:Type} {l:V6 b} {i:Nat} {x:b} (h:l[i]? = some x):i<l.length:=by
 rcases zAr i l.length with a|a
 .exact a
 .rw[zAp a]at h;cases h
theorem aaw {l:V6 V5} {m:V6 Nat} {q:Nat} (h:chk l m q=true):Chk l m q:=by
  have a:∀(i:Nat) (o:V5),l[i]? = some o->
      ((vT o).all (λe=>Nat.blt e i&&before m i e&&(List.range i).all (λk=> !before m e k||before m i k))=true)/\
      ((List.range l.length).all (λk=> !before m i k||(Nat.blt k i&&(vT o).any (λe=>Nat.beq e k||before m e k)))=true)/\DT o.op=false/\
      ((if Nat.ble q i then(List.range i).all (λx=>before m i x)
       else(List.range i).all (λx=>before m i x||(match l[x]? with|none=>false|some r=>r.apart l.toArray o&&(!fI r.op || !fI o.op))))=true):=by
    intro i o c;have:=zA7.1 h i (zAi.2 (bB c));simp only[c,zA4,Bool.not_eq_true']at this;exact⟨this.1.1.1,this.1.1.2,this.1.2,this.2⟩
  refine⟨?_,?_,?_,?_,?_⟩
  · intro i o c e j;have:=zA7.1 (a i o c).1 e j;simp only[zA4,zAy]at this;exact⟨this.1.1,this.1.2⟩
  · intro i o c k g d;have:=zA7.1 (a i o c).2.1 k (zAi.2 d);simp only[g,Bool.not_true,Bool.false_or,zA4,zAy,List.any_eq_true,zAx]at this;obtain⟨s,e,j,f⟩:=this;refine⟨s,e,j,?_⟩
    rcases f with f|f
    · exact .inl (zA6 f)
    · exact .inr f
  · intro i o c v b e;have:=(a i o c).2.2.1;rw[e]at this;cases this
  · intro i x n g p;obtain⟨o,c⟩:∃o,l[i]? = some o:=⟨_,zA0 n⟩
    have:=(a i o c).2.2.2;rw[if_pos (by simpa using g)]at this;exact zA7.1 this x (zAi.2 p)
  · intro i x u r n p g d t;have:=(a i u n).2.2.2;rw[if_neg (by simpa using g)]at this;have:=zA7.1 this x (zAi.2 d);simp only[t,Bool.false_or,p,zA4,zAx,Bool.not_eq_true']at this;exact this
section
variable {P:Program} {Q:Exit->Act->V2->Prop} {l:V6 V5} {m:V6 Nat} {k0:Nat}
theorem RW.any (hc:Chk l m k0):∀(g:Nat) (L:V6 Nat) (c:Array V4) (a:Act) (w:V2) (H:V6 (Nat×V2)) (Y:V6 (Nat×(V2->Prop))),
  L.length<=g->c.size=l.length->L.Pairwise (· < ·)->(∀i,i∈L↔i<l.length/\c.getD i true=false)->
  (∀j k,c.getD j false=true->before m j k=true->k<l.length->c.getD k false=true)->
  RW P l.toArray Q (before m) (eG l) k0 L a w H Y->wpAny P .any l.toArray Q g c a w:=by
 intro g
 induction g with
 |zero=>
  intro L c a w H Y K W p d R h;have hL:L=[]:=zAn V7;subst hL;refine⟨?_,h⟩
  rw[List.eq_nil_iff_forall_not_mem];intro i hi;obtain⟨h0,o,A,_⟩:=mem_ready.1 hi;have:i<l.length:=by have:=(zAh.1 A).1;simpa using this
  have:=(d i).2 ⟨this,h0⟩;simp at this
 | succ g ih =>
  intro L c a w H Y K W p d R h;refine⟨λF=> ?_,λi hi=> ?_⟩
  .cases L with
   |nil=>exact h
   | cons i L =>
    exfalso;obtain⟨q,h0⟩:=(d i).1 zAe;obtain⟨o,A⟩:∃o,l[i]? = some o:=⟨_,zA0 q⟩
    have:i∈Region.ready .any l.toArray c:=by
     refine mem_ready.2 ⟨h0,o,by simpa using A,λe he O=> ?_⟩;have aj:e.on∈vT o:=zAs.2 ⟨e,List.mem_filter.2 ⟨by simpa using he,O⟩,rfl⟩;have ap:=(hc.edge i o A e.on aj).1;cases hg:c.getD e.on true with
     |false=>
      have hm:=(d e.on).2 ⟨V7,hg⟩;rcases zAo.1 hm with e1|e1
      .omega
      .have:=(List.pairwise_cons.1 p).1 _ e1;omega
     |true=>
      have:e.on<c.size:=V7
      simp[this]at hg ⊢;exact hg
    rw[F]at this;simp at this
  .obtain⟨h0,o,ah,S⟩:=mem_ready.1 hi;have A:l[i]? = some o:=by simpa using ah
   have q:i<l.length:=bB A;have ak:i∈L:=(d i).2 ⟨q,h0⟩;obtain⟨u,L2,rfl⟩:=List.append_of_mem ak;have hs:=List.pairwise_append.1 p;have D:∀x∈u,x<i:=λx t=>hs.2.2 x t i zAe;have ab:∀x∈L2,i<x:=λx t=>(List.pairwise_cons.1 hs.2.1).1 x t;have I:∀k,before m i k=true->k<l.length->c.getD k false=true:=by
    intro k X ag;obtain⟨_,e,he,T⟩:=hc.trans i o A k X ag;obtain⟨ed,ai,rfl⟩:=zAs.1 he;obtain⟨ac,ad⟩:=List.mem_filter.1 ai;have hl:=S ed (by simpa using ac) ad;rcases T with rfl|T
    .exact hl
    .exact R _ _ hl T ag
   have V:∀x∈u,before m i x=false:=by
    intro x t;cases O:before m i x with
    |false=>rfl
    |true=>
     have G:=((d x).1 (by simp[t]))
     have:=I x O G.1;have am:x<c.size:=V7
     simp[am]at this G;rw[this]at G;simp at G
   -- the rest
   have next:∀z C H' N,RW P l.toArray Q (before m) (eG l) k0 (u++L2) z C H' N->wpAny P .any l.toArray Q g (c.setIfInBounds i true) z C:=by
    intro z C H' N F;refine ih (u++L2) _ z C H' N ?_ (by simp[W]) ?_ ?_ ?_ F
    .simp at K ⊢;omega
    .exact List.pairwise_append.2 ⟨hs.1,(List.pairwise_cons.1 hs.2.1).2,λx t y hy=>by have:=D x t;have:=ab y hy;omega⟩
    .intro j;by_cases e:i=j
     .subst e;constructor
      .intro f;rcases zBa.1 f with f|f
       .have:=D i f;omega
       .have:=ab i f;omega
      .rintro⟨_,f⟩;simp[W,q]at f
     .rw[getD_set_ne true e];have:=d j;simp only[zBa,zAo]at this ⊢;constructor
      .intro f;exact this.1 (by rcases f with f|f;exact .inl f;exact .inr (.inr f))
      .intro f;rcases this.2 f with f|rfl|f
       .exact .inl f
       .exact absurd Z e
       .exact .inr f
    .intro j k f af X;by_cases e:i=j
     .subst e;exact getD_set_true (I k af X)
     .rw[getD_set_ne false e]at f;exact getD_set_true (R j k f af X)
   have s:l.toArray[i]? = some o:=ah;by_cases X:k0<=i
   .have aa:u=[]:=by
     cases u with
     |nil=>rfl
     |cons x u=>
      have n:=V x zAe;have r:=hc.tail i x q X (D x zAe);rw[n]at r;cases r
    subst aa;simp only[List.nil_append,RW,s]at h;unfold wpOp;simp only[s];split
    .rename_i hw;rw[if_pos hw]at h;rcases h with⟨_,h|h⟩|⟨h,_⟩|⟨h,_⟩
     .exact .inl (Oper.wp_mono (λz C F=>next z C _ _ F) h)
     .exact .inr (Oper.rnd_mono (λz C F=>next z C _ _ F) h)
     .omega
     .omega
    .rename_i hw;rw[if_neg hw]at h;exact next _ _ _ _ h
   .have U:i<k0:=V7
    have J:∀x∈u,LC l.toArray (before m) (eG l) x i/\x<k0:=by
     intro x t;have al:=D x t;obtain⟨ox,E⟩:∃ox,l[x]? = some ox:=⟨_,zA0 V7⟩
     have ae:=hc.ind i x o ox A E U al (V x t);refine⟨⟨V x t,?_,?_,?_⟩,V7⟩
     .cases O:before m x i with
      |false=>rfl
      |true=>have:=(hc.trans x ox E i O q).1;omega
     .intro ao an n r;have e1:ox=ao:=by simpa [E]using n
      have e2:o=an:=by simpa [A]using r
      rw[<-e1,<-e2];exact ae.1
     .rcases ae.2 with n|n
      .exact .inl (by simp[eG,E,n])
      .exact .inr (by simp[eG,A,n])
    have M:∀(i:Nat) (o:V5),l.toArray[i]? = some o->∀cs b,o.op ≠ .select cs b:=λi o h=>hc.sel i o (by simpa using h);unfold wpOp;simp only[s];cases hl:eG l i with
    | false =>
     rcases Ha M s U hl u a w H Y J h with⟨n,r⟩|⟨n,v,B,⟨O,_,F⟩,r⟩
     .rw[n];exact next _ _ _ _ r
     .rw[n];exact .inl (by simp only[Oper.wp,F w O,Oper.upon];exact next _ _ _ _ r)
    | true =>
     rcases H_ M s U hl u a w H Y J h with⟨n,r⟩|⟨n,r⟩
     .rw[n];exact next _ _ _ _ r
     .rw[n];exact .inl (MP (pW (λz C hh=>next z C _ _ hh.2) r))
theorem Nu {g:V1 Nat} {id:Nat} {a:Act} {w:V2} (e:l.all kD=true) (f:P.follows .mixedOrders=true) (d:chk l m k0=true)
  (h:RW P l.toArray Q (before m) (eG l) k0 (List.range l.length) a w.drew [] []):(Code.region id l.toArray true).wpr g P Q a w:=by
 refine Gh e f<|RW.any (aaw d) _ (List.range l.length) _ a _ [] [] V8 V8 List.pairwise_lt_range ?_ ?_ h
 .intro i;simp only[zAi];constructor
  .intro c;exact⟨c,by simp[c]⟩
  .exact λh=>h.1
 .intro j k b;simp[Array.getElem?_replicate]at b;split at b<;>simp at b
def agF (c:wJ):V6 (Nat×V6 aZ×V6 aZ)->V6 (Nat×V2)->Prop
 | [],[]=>True
 |h::H,x::X=>h.1=x.1/\St c h.2.1 h.2.2 x.2/\agF c H X
 |_,_=>False
def Uk (c:wJ):V6 (Nat×V6 aZ×V6 aZ)->V6 (Nat×(V2->Prop))->Prop
 | [],[]=>True
 |b::B,x::X=>x=(b.1,St c b.2.1 b.2.2)/\Uk c B X
 |_,_=>False
def JR (c:wJ) (n:Sz) (d:Fr) (M L:V6 aZ) (H b:V6 (Nat×V6 aZ×V6 aZ)) (G:Act->V2->V6 (Nat×V2)->V6 (Nat×(V2->Prop))->Prop):Prop:=
 ∀a w X Y,Hv n d a->St c M L w->agF c H X->Uk c b Y->G a w X Y
variable {c:wJ} {n:Sz} {σ:Fr} {M L Mx Lx:V6 aZ} {H Bs:V6 (Nat×V6 aZ×V6 aZ)}
theorem JR.start {f:V1 Nat} {id:Nat} (m:V6 Nat) (k0:Nat) (e:P.follows .mixedOrders=true) (b:chk l m k0=true)
  (h:JR c n σ M L [] [] (RW P l.toArray Q (before m) (eG l) k0 (List.range l.length))) (d:l.all kD=true:=by rfl):J c n σ M L ((Code.region id l.toArray true).wpr f P Q):=λa w s t=>
 Nu d e b (h a w.drew [] [] s (t.ext ((Below.refl _ _).drew)) trivial trivial)
structure Jj (M L Mx Lx:List aZ):Prop where
 hM:aX M Mx
 hL:mD L Lx
theorem Jj.st {M L Mx Lx:V6 aZ} (h:Jj M L Mx Lx) {w:V2} (t:St c M L w):St c Mx Lx w:=t.weak h.hM h.hL
def aO (A:Nat->V4) (Mx Lx:V6 aZ):V6 (Nat×V6 aZ×V6 aZ)->Prop
 | []=>True
 |h::H=>(A h.1=true\/Jj h.2.1 h.2.2 Mx Lx)/\aO A Mx Lx H
def uT (A:Nat->V4) (M L:V6 aZ):V6 (Nat×V6 aZ×V6 aZ)->Prop
 | []=>True
 |b::B=>(A b.1=true\/Jj M L b.2.1 b.2.2)/\uT A M L B
theorem aO.use {A:Nat->V4} {Mx Lx:V6 aZ}:∀{H:V6 (Nat×V6 aZ×V6 aZ)} {X:V6 (Nat×V2)},aO A Mx Lx H->agF c H X->∀x∈X,A x.1=false->St c Mx Lx x.2
 | [],[],_,_,x,a,_=>by simp at a
 | [],_::_,_,h,_,_,_=>h.elim
 |_::_,[],_,h,_,_,_=>h.elim
 | h :: H, y :: X, ho, hi, x, a, hA => by
  rcases zAo.1 a with rfl|a
  .rcases ho.1 with b|b
   .rw[hi.1,hA]at b;cases b
   .exact b.st hi.2.1
  .exact aO.use ho.2 hi.2.2 x a hA
theorem uT.use {A:Nat->V4} {M L:V6 aZ} {w:V2} (t:St c M L w):∀{B:V6 (Nat×V6 aZ×V6 aZ)} {X:V6 (Nat×(V2->Prop))},uT A M L B->Uk c B X->∀x∈X,A x.1=false->x.2 w
 | [],[],_,_,x,a,_=>by simp at a
 | [],_::_,_,h,_,_,_=>h.elim
 |_::_,[],_,h,_,_,_=>h.elim
 | b :: B, y :: X, ho, hi, x, a, hA => by
  rcases zAo.1 a with rfl|a
  .rcases ho.1 with d|d
   .rw[hi.1]at hA;rw[d]at hA;cases hA
   .rw[hi.1];exact d.st t
  .exact uT.use t ho.2 hi.2 x a hA
theorem JR.quiet {i:Nat} {b:V6 Nat} {d:Nat} {g:Op} {k:V9} {f:String} {e:Array Edge} {v:V0} (Mx Lx:V6 aZ)
  (p:l[i]? = some ⟨some d,g,k,f,e,none⟩) (y:Nat.blt i k0=true) (z:fI g=false) (A:Y P c n σ Mx Lx ⟨some d,g,k,f,e,none⟩ v) (r:Jj M L Mx Lx) (q:aO (before m i) Mx Lx H) (x:Nat.blt d n.sz=true)
  (h:JR c n ((d,v)::σ) M L H ((i,Mx,Lx)::Bs) (RW P l.toArray Q (before m) (eG l) k0 b)):JR c n σ M L H Bs (RW P l.toArray Q (before m) (eG l) k0 (i::b)):=λa w X Y s t o u=>by
 have j:l.toArray[i]? = some ⟨some d,g,k,f,e,none⟩:=by simpa using p
 simp only[RW,j];rw[if_pos (by simp[Region.wanted])];refine .inr (.inl ⟨by simpa [zAy]using y,by simp[eG,p,z],v,St c Mx Lx,⟨r.st t,q.use o,λC B=>A a C s B⟩,h _ w X _ (s.put d v x) t o ⟨rfl,u⟩⟩)
theorem XN {i:Nat} {e:V6 Nat} {d:Nat} {k:Op} {p:V9} {g:String} {f:Array Edge} {j:Nat} {b:V4} {v:V0} (Mx Lx:V6 aZ)
  (r:l[i]? = some ⟨some d,k,p,g,f,some (j,b)⟩) (B:Nat.blt i k0=true) (C:fI k=false) (A:gv l.toArray σ j=some b) (D:Y P c n σ Mx Lx ⟨some d,k,p,g,f,some (j,b)⟩ v) (x:Jj M L Mx Lx) (u:aO (before m i) Mx Lx H) (z:Nat.blt d n.sz=true)
  (h:JR c n ((d,v)::σ) M L H ((i,Mx,Lx)::Bs) (RW P l.toArray Q (before m) (eG l) k0 e)):JR c n σ M L H Bs (RW P l.toArray Q (before m) (eG l) k0 (i::e)):=λa w X Y s t q y=>by
 have o:l.toArray[i]? = some ⟨some d,k,p,g,f,some (j,b)⟩:=by simpa using r
 simp only[RW,o];rw[if_pos (by simp[Region.wanted,Cj s A])];refine .inr (.inl ⟨by simpa [zAy]using B,by simp[eG,r,C],v,St c Mx Lx,⟨x.st t,u.use q,λF E=>D a F s E⟩,h _ w X _ (s.put d v z) t q ⟨rfl,y⟩⟩)
theorem bY {i:Nat} {e:V6 Nat} {d:Nat} {p:Op} {q:V9} {g:String} {f:Array Edge} {j:Nat} {b o:V4}
  (z:l[i]? = some ⟨some d,p,q,g,f,some (j,b)⟩) (y:gv l.toArray σ j=some o) (v:(o==b)=false) (x:Nat.blt d n.sz=true)
  (h:JR c n ((d,undef)::σ) M L H Bs (RW P l.toArray Q (before m) (eG l) k0 e)):JR c n σ M L H Bs (RW P l.toArray Q (before m) (eG l) k0 (i::e)):=λa w X Y s t r u=>by
 have k:l.toArray[i]? = some ⟨some d,p,q,g,f,some (j,b)⟩:=by simpa using z
 simp only[RW,k];rw[if_neg (by simp[Region.wanted,Cj s y,v])];exact h _ w X Y (s.put d undef x) t r u
theorem JR.guard {i f:Nat} {rest:V6 Nat} {d:V1 Tmp} {u:Op} {v:V9} {o:String} {g:Array Edge} {j:Nat} {e b:V4}
  (_:l[i]? = some ⟨d,u,v,o,g,some (j,b)⟩) (_:(l[j]?).bind (·.dst)=some f) (p:lk σ f=some (.bool e))
  (r:e=true->JR c n ((f,.bool true)::σ) M L H Bs (RW P l.toArray Q (before m) (eG l) k0 (i::rest)))
  (q:e=false->JR c n ((f,.bool false)::σ) M L H Bs (RW P l.toArray Q (before m) (eG l) k0 (i::rest))):JR c n σ M L H Bs (RW P l.toArray Q (before m) (eG l) k0 (i::rest)):=by
 cases e
 .exact λa w X Y s t h k=>q Z a w X Y (s.over (s.slot _ _ p)) t h k
 .exact λa w X Y s t h k=>r Z a w X Y (s.over (s.slot _ _ p)) t h k
theorem Gj {i e:Nat} {a:V6 Nat} {d:V1 Tmp} {t:Op} {u:V9} {g:String} {f:Array Edge} {j:Nat} {p:Prop} {_:Decidable p} {b:V4}
  (q:l[i]? = some ⟨d,t,u,g,f,some (j,b)⟩) (r:(l[j]?).bind (·.dst)=some e) (o:lk σ e=some (.bool (decide p)))
  (s:p->JR c n ((e,.bool true)::σ) M L H Bs (RW P l.toArray Q (before m) (eG l) k0 (i::a)))
  (k:¬p->JR c n ((e,.bool false)::σ) M L H Bs (RW P l.toArray Q (before m) (eG l) k0 (i::a))):JR c n σ M L H Bs (RW P l.toArray Q (before m) (eG l) k0 (i::a)):=
 JR.guard q r o (λh=>s (zB5 h)) (λh=>k (of_decide_eq_false h))
def aN (P:Program) (c:wJ) (n:Sz) (σ:Fr) (M L:V6 aZ) (o:V5) {A:Type} (b:A->V0) (M' L':A->V6 aZ):Prop:=
 ∀a w,Hv n σ a->St c M L w->o.wp P a w (λd e=>∃x:A,d=a.put o.dst (b x)/\St c (M' x) (L' x) e) Us
theorem aI {A:Type} {i:A->V0} {M' L':A->V6 aZ} {f:Array V5} {b:V6 V5} {d:Nat} {j:Op} {k:V9} {g:String} {e:Array Edge}
  (q:aN P c n σ M L ⟨some d,j,k,g,e,none⟩ i M' L') (o:Nat.blt d n.sz=true) (h:∀x,J c n ((d,i x)::σ) (M' x) (L' x) (wpList P f Q b)):
  J c n σ M L (wpList P f Q (⟨some d,j,k,g,e,none⟩::b)):=λa w s t=>
 mQ Z (MP (pW (λv u ⟨x,p,r⟩=>by subst p;exact h x _ u (s.put d _ o) r) (q a w s t)))
theorem BI {A:Type} {k:A->V0} {p o:A->V6 aZ} {f:Array V5} {e:V6 V5} {d:Nat} {q:Op} {r:V9} {i:String} {g:Array Edge} {j:Nat} {b:V4}
  (y:gv f σ j=some b) (z:aN P c n σ M L ⟨some d,q,r,i,g,some (j,b)⟩ k p o) (u:Nat.blt d n.sz=true) (h:∀x,J c n ((d,k x)::σ) (p x) (o x) (wpList P f Q e)):
  J c n σ M L (wpList P f Q (⟨some d,q,r,i,g,some (j,b)⟩::e)):=λa w s t=>
 mQ (by simp[Region.wanted,Cj s y]) (MP (pW (λD C ⟨x,v,B⟩=>by subst v;exact h x _ C (s.put d _ u) B) (z a w s t)))
theorem zBl {A:Type} {g:A->V0} {o k:A->V6 aZ} {i:Nat} {b:V6 Nat} {d:Nat} {j:Op} {q:V9} {f:String} {e:Array Edge}
  (u:l[i]? = some ⟨some d,j,q,f,e,none⟩) (C:Nat.blt i k0=true) (D:fI j=true) (E:aN P c n σ M L ⟨some d,j,q,f,e,none⟩ g o k) (B:Nat.blt d n.sz=true)
  (y:∀x,uT (before m i) (o x) (k x) Bs) (h:∀x,JR c n ((d,g x)::σ) (o x) (k x) ((i,M,L)::H) Bs (RW P l.toArray Q (before m) (eG l) k0 b)):
  JR c n σ M L H Bs (RW P l.toArray Q (before m) (eG l) k0 (i::b)):=λa w X Y s t z r=>by
 have p:l.toArray[i]? = some ⟨some d,j,q,f,e,none⟩:=by simpa using u
 simp only[RW,p];rw[if_pos (by simp[Region.wanted])];refine .inr (.inr ⟨by simpa [zAy]using C,by simp[eG,u,D],pW ?_ (E a w s t)⟩);rintro G F ⟨x,rfl,v⟩;exact⟨(y x).use v r,h x _ F _ Y (s.put d _ B) v ⟨rfl,t,z⟩ r⟩
theorem RW.tail {X:V6 (Nat×V2)} {Y:V6 (Nat×(V2->Prop))}:∀(r:V6 Nat) (b:V6 V5),(∀i∈r,k0<=i)->r.map (l[·]?)=b.map some->∀a w,wpList P l.toArray Q b a w->RW P l.toArray Q (before m) (eG l) k0 r a w X Y
 | [],[],_,_,_,_,h=>h
 | [],_::_,_,e,_,_,_=>by simp at e
 |_::_,[],_,e,_,_,_=>by simp at e
 | i :: r, o :: b, hk, e, a, w, h => by
  simp only[zBd,List.cons.injEq]at e;have d:l.toArray[i]? = some o:=by simpa using e.1
  have g:=λa w=>RW.tail (X:=X) (Y:=Y) r b (λi j=>hk i (zAk _ j)) e.2 a w;simp only[RW,d];unfold wpList at h;split
  .rename_i f;rw[if_pos f]at h;refine .inl ⟨hk i zAe,?_⟩;rcases h with h|h
   .exact .inl (Oper.wp_mono (λa w h=>g a w h) h)
   .exact .inr (Oper.rnd_mono (λa w h=>g a w h) h)
  .rename_i f;rw[if_neg f]at h;exact g _ _ h
theorem JR.tail {r:V6 Nat} {b:V6 V5} (f:r.all (Nat.ble k0)=true) (d:r.map (l[·]?)=b.map some) (h:J c n σ M L (wpList P l.toArray Q b)):JR c n σ M L H Bs (RW P l.toArray Q (before m) (eG l) k0 r):=
 λa w _ _ s t _ _=>RW.tail r b (λi e=>by simpa using zA7.1 f i e) d a w (h a w s t)
end
structure bI (α:Type) where
 sz:Nat
 pos:0<sz
 enc:α->List V0
 len:∀x,(enc x).length=sz
def bI.int (k:IntKind):bI Int:=⟨1,Nat.one_pos,λx=>[.int k x],λ_=>rfl⟩
def bI.bool:bI V4:=⟨1,Nat.one_pos,λx=>[.bool x],λ_=>rfl⟩
def bI.raw:bI V0:=⟨1,Nat.one_pos,λx=>[x],λ_=>rfl⟩
def cellsOf {a:Type} (e:bI a) (b:V6 a):V6 V0:=b.flatMap e.enc
theorem eR {b:Type} (e:bI b) (a:V6 b):(cellsOf e a).length=a.length*e.sz:=by
 induction a with
 |nil=>simp[cellsOf]
 |cons x a c=>simp only[cellsOf,List.flatMap_cons,zA5,e.len,zA9,zB3]at *;omega
theorem yK {c:Type} (e:bI c) (a:V6 c):∀(i:Nat) (x:c),a[i]? = some x->∀j u,(e.enc x)[j]? = some u->(cellsOf e a)[i*e.sz+j]? = some u:=by
 induction a with
 |nil=>intro i x h;simp at h
 | cons y a ih =>
  intro i x h j u b;simp only[cellsOf,List.flatMap_cons];cases i with
  |zero=>
   simp at h;subst h;rw[zAc (by have:=bB b;omega)];simpa using b
  |succ i=>
   simp only[List.getElem?_cons_succ]at h;rw[zAb (by rw[e.len,zB3];omega),e.len];have:(i+1)*e.sz+j - e.sz=i*e.sz+j:=by rw[zB3];omega
   rw[this];exact ih i x h j u b
theorem mM {c:Type} (e:bI c) (a b:V6 c):cellsOf e (a++b)=cellsOf e a++cellsOf e b:=by simp[cellsOf]
def Bo {g:Type} (e:bI g) (w:V2) (F:Nat->Prop) (v:V0) (f:V6 g):Prop:=
 f.length<=140737488355328/\(cellsOf e f).all one=true/\((v = .slice none 0 0/\f=[])\/∃b d a T,∃c:Array V0,v = .slice (some ⟨b,d,none⟩) f.length a/\F b/\w.heap[b]? = some (.cells c T (0,0))/\
  f.length<=a/\d+a*e.sz<=c.size/\(c.toList.drop d).take (f.length*e.sz)=cellsOf e f)
def Ar {g:Type} (e:bI g) (v:V0) (q:V6 g):aZ where
 p w F:=Bo e w F v q
 mono:=fun⟨i,j,h⟩ n=>⟨i,j,by
  rcases h with h|⟨b,d,a,T,c,o,m,f,r⟩
  .exact .inl h
  .obtain⟨k,l⟩:=n b m (zAh.1 f).1;exact .inr ⟨b,d,a,T,c,o,k,by rw[l];exact f,r⟩⟩
section
variable {α:Type} {e:bI α} {w:V2} {F:Nat->Prop} {v:V0} {xs:V6 α}
theorem Bo.cell (h:Bo e w F v xs) {i:Nat} {x:α} (c:xs[i]? = some x) {j:Nat} {u:V0} (l:(e.enc x)[j]? = some u):w.cell? (KH v (i*e.sz+j))=some u:=by
 obtain⟨_,_,h⟩:=h;rcases h with⟨_,h⟩|⟨b,n,d,T,f,m,_,g,p,o,k⟩
 .subst h;simp at c
 .have a:=yK e xs i x c j u l;rw[<-k,zAt]at a;split at a
  .rw[zAu]at a;subst m;simp only[KH,eM];simp[World.cell?,g];simpa using a
  .cases a
theorem Re (h:Bo e w F v xs) (g:xs≠[]) (o:Nat):w.frozen? (KH v o)=false:=by
 obtain⟨_,_,h⟩:=h;rcases h with⟨_,h⟩|⟨b,i,a,T,c,f,_,d,_⟩
 .exact absurd h g
 .subst f;simp only[KH,eM];simp[World.frozen?,d]
end
section
variable {P:Program} {rd:V1 Nat} {c:wJ} {n:Sz} {σ:Fr} {M L:V6 aZ} {Q:Exit->Act->V2->Prop} {ops:Array V5} {rest:V6 V5}
variable {d:V1 Tmp} {D:Nat} {ty:V9} {pos:String} {aft:Array Edge} {g:V1 (Nat×V4)}
variable {α:Type} {e:bI α}
theorem sH [cO P] (j:Nat) {T E:V9} {G H m I:Nat} {z J:V0} {q:TypeDesc} {x y:V3} {v:V0} {i:Int} {o:V6 α} (C:ev σ x=some v) (F:ev σ y=some (.int .i64 i)) (B:M[j]? = some (Ar e v o))
  (A:cO.tab P T=some ⟨.slice E,G,H,z⟩) (u:cO.tab P E=some ⟨q,m,I,J⟩) (r:0<=i) (l:i<o.length):
  Y P c n σ M L ⟨d,.indexAddr T x y,ty,pos,aft,g⟩ (Er v (i.toNat*m)):=λa w s t=>by
 obtain⟨S,_,_,h⟩:=t.res B;rcases h with⟨rfl,rfl⟩|⟨b,k,f,K,p,rfl,_⟩
 .simp at l;omega
 .simp[execOp,s.eval C,s.eval F,JP w (cO.ok A) Z (cO.ok u) b k _ f i r l]
theorem adB [cO P] [Inhabited α] (j:Nat) {T:V9} {C q o:Nat} {z:V0} {f:TypeDesc} {x:V3} {v:V0} {i:Int} {b:V6 α} {u:V0} (B:ev σ x=some (Er v (i.toNat*q+o))) (r:M[j]? = some (Ar e v b))
  (m:cO.tab P T=some ⟨f,1,C,z⟩) (p:yA f=false) (y:e.sz=q) (A:(e.enc (at' b i))[o]? = some u) (k:0<=i) (l:i<b.length):
  Y P c n σ M L ⟨d,.load T x,ty,pos,aft,g⟩ u:=λa w s t=>by
 obtain⟨S,h⟩:=t.res r;have:=Bo.cell h (cG k l) A;rw[y]at this;simp[execOp,s.eval B,Er,AE (cO.ok m) p this]
theorem ZN [cO P] [Inhabited α] (j:Nat) {T:V9} {t:Nat} {z:V0} {b:TypeDesc} {x:V3} {v:V0} {i:Int} {a:V6 α} {u:V0} (s:ev σ x=some (Er v (i.toNat*1))) (m:M[j]? = some (Ar e v a))
  (k:cO.tab P T=some ⟨b,1,t,z⟩) (l:yA b=false) (p:e.sz=1) (r:(e.enc (at' a i))[0]? = some u) (f:0<=i) (h:i<a.length):
  Y P c n σ M L ⟨d,.load T x,ty,pos,aft,g⟩ u:=adB j (q:=1) (o:=0) s m k l p r f h
theorem yW {a:V6 α} (f:e.sz=1) {i:Nat} {y:α} {u:V0} (h:e.enc y=[u]):cellsOf e (a.set i y)=(cellsOf e a).set i u:=by
 induction a generalizing i with
 |nil=>simp[cellsOf]
 | cons x a ih =>
  obtain⟨p,b⟩:∃p,e.enc x=[p]:=by
   have:=e.len x;rw[f]at this;exact List.length_eq_one_iff.1 this
  cases i with
  |zero=>simp[cellsOf,b,h]
  |succ i=>simp only[List.set_cons_succ,cellsOf,List.flatMap_cons,b,List.singleton_append]at *;rw[ih]
theorem take_set {a:Type} (l:V6 a) (k i:Nat) (u:a):(l.set i u).take k=(l.take k).set i u:=by
 rw[List.take_set]
theorem Rp [cO P] (j:Nat) {T:V9} {s2:Nat} {z:V0} {dT:TypeDesc} {x y:V3} {v u:V0} {i:Int} {m:V6 α} (yv:α) (Y:ev σ x=some (Er v (i.toNat*1))) (hy:ev σ y=some u) (X:e.enc yv=[u]) (A:one u=true)
  (V:M[j]? = some (Ar e v m)) (hT:cO.tab P T=some ⟨dT,1,s2,z⟩) (I:e.sz=1) (h0:0<=i) (U:i<m.length)
  (h:J c n σ (M.set j (Ar e v (m.set i.toNat yv))) L (wpList P ops Q rest)):
  J c n σ M L (wpList P ops Q (⟨none,.store T x y,ty,pos,aft,none⟩::rest)):=λa w s t=>by
 refine mQ Z ?_;obtain⟨F,H⟩:=t.res V;have W:i.toNat<m.length:=V7
 have C:m[i.toNat]? = some m[i.toNat]:=zA0 W;have E:m≠[]:=by intro e;subst e;simp at W
 obtain⟨p,hp⟩:∃p,e.enc m[i.toNat]=[p]:=List.length_eq_one_iff.1 ((e.len _).trans I);have f:=Bo.cell H C (j:=0) (u:=p) (by rw[hp];rfl);rw[I,Nat.add_zero,Nat.mul_one]at f;rw[Nat.mul_one]at Y;have o:=Re H E i.toNat;have G:(execOp a.eval ⟨none,.store T x y,ty,pos,aft,none⟩).run P w = .ok .skip (w.setCell (KH v i.toNat) u):=by
  simp only[execOp,s.eval Y,s.eval hy,Er];simp[EE (cO.ok hT) Z A f o]
 simp only[Oper.wp,G,Oper.upon];refine h _ _ s (t.upd V Z Z Z (by simp[World.setCell]) λF H _=> ?_);obtain⟨hl,U,O⟩:=H;rcases O with⟨_,O⟩|⟨b,l,r,T',K,hv,B,hb,hk,hc,ht⟩
 .exact absurd O E
 .subst hv;have ha:KH (.slice (some ⟨b,l,none⟩) m.length r) i.toNat=⟨b,l+i.toNat,none⟩:=by simp[KH,eM]
  rw[ha];refine⟨λk _ R=>Below.heap_setCell _ _ _ _ (λe=>R (by simp only at e;subst e;exact B)),F,⟨by simpa using hl,?_,.inr ⟨b,l,r,T',K.setIfInBounds (l+i.toNat) u,V8,B,?_,by simpa using hk,by simpa using hc,?_⟩⟩,λ_ h=> .inl h⟩
  .rw[yW I X,zA7];intro q S;rcases List.mem_or_eq_of_mem_set S with N|N
   .exact zA7.1 U q N
   .rw[N];exact A
  .simp[World.setCell,Array.getElem?_modify,hb]
  .rw[yW I X,<-ht,Array.toList_setIfInBounds,zA2,<-take_set];congr 1;rw[List.drop_set,Q0,Nat.add_sub_cancel_left]
theorem St.allocAr {w:V2} (t:St c M L w) (b:V6 V0) (T:V9) {a:V6 α} {k:Nat} (o:a.length=k) (r:a.length<=140737488355328) (l:b=cellsOf e a) (p:(cellsOf e a).all one=true):
  St c (Ar e (.slice (some ⟨w.heap.size,0,none⟩) k k) a::M) L (w.alloc (.cells b.toArray T)):=by
 have u:=t.alloc b T;obtain⟨s,F,f,q⟩:=u;refine⟨s,F,⟨λi m h=> ?_,f.rng,f.dis⟩,q⟩
 cases i with
 | zero =>
  simp at h;subst h;have j:=f.res 0 _ Z;refine⟨r,p,.inr ⟨w.heap.size,0,k,T,b.toArray,by rw[o],j.1,j.2,V7,?_,?_⟩⟩
  .simp only[Nat.zero_add,List.size_toArray,l,eR,o];exact zAg _
  .simp only[List.drop_zero,l];rw[List.take_of_length_le (by rw[eR];exact zAg _)]
 |succ i=>exact f.res (i+1) m (by simpa using h)
theorem aN.buildSlice [cO P] {T E:V9} {k K N h O:Nat} {z A:V0} {F:TypeDesc} {m:V6 (Nat×V3)} {l:V6 (Nat×V0)} (xs:V6 α)
    (C:cO.tab P T=some ⟨.slice E,K,N,z⟩) (v:cO.tab P E=some ⟨F,h,O,A⟩) (J:Nat.ble (k*h) 16777216=true) (r:m.map (λp=>(p.1,ev σ p.2))=l.map (λp=>(p.1,some p.2)))
    (f:∀j:Array V0,j.size=k*h->Instr.fill (λi=>some (i*h,h)) j l=some (cellsOf e xs).toArray)
    (H:xs.length=k) (I:Nat.ble xs.length 140737488355328=true) (G:(cellsOf e xs).all one=true):
    aN P c n σ M L ⟨d,.buildSlice T k m.toArray,ty,pos,aft,g⟩ (λb:Nat=> .slice (some ⟨b,0,none⟩) k k) (λb=>Ar e (.slice (some ⟨b,0,none⟩) k k) xs::M) (λ_=>L):=λa w s t=>by
  have x:m.map (λp=>(p.1,a.eval p.2))=l:=by
    clear f
    induction m generalizing l with
    |nil=>cases l<;>simp_all
    | cons p m ih =>
      cases l with
      |nil=>simp at r
      | cons q l =>
        simp only[zBd,List.cons.injEq,Prod.mk.injEq]at r;simp only[zBd,s.eval r.1.2,r.1.1,ih r.2]
  have y : ¬ (16777216 < k * h) := by
      have : k * h ≤ 16777216 := by simpa using J
      omega
  have o:(execOp a.eval ⟨d,.buildSlice T k m.toArray,ty,pos,aft,g⟩).run P w = .ok (.value (.slice (some ⟨w.heap.size,0,none⟩) k k)) (w.alloc (.cells (cellsOf e xs).toArray E)):=by
    simp only[execOp,List.map_toArray,x,Instr.buildSlice];by_cases B:k*h=0
    · have u:=f ((Array.range (k*h)).map ((#[]:Array V0)[· % (#[]:Array V0).size]!)) V8;simp[(cO.ok C).run_und w,(cO.ok v).run_size w,B]at u ⊢;simp[u,newRow]
    · have u:=f ((Array.range (k*h)).map (A.cells[· % A.cells.size]!)) V8;simp[(cO.ok C).run_und w,(cO.ok v).run_size w,(cO.ok v).run_zero w,B,y,u,newRow]
  simp only[Oper.wp,o,Oper.upon];exact⟨w.heap.size,rfl,t.allocAr (cellsOf e xs) E H (by simpa using I) Z G⟩
theorem aN.makeSlice [cO P] {T E:V9} {J K p q:Nat} {z j:V0} {r:TypeDesc} {x:V3} {k:Int} (xs:V6 α)
  (B:cO.tab P T=some ⟨.slice E,J,K,z⟩) (A:cO.tab P E=some ⟨r,p,q,j⟩) (H:ev σ x=some (.int .i64 k)) (u:0<=k) (C:(q:Int)*k<=281474976710656) (y:k<=140737488355328)
  (F:xs.length=k.toNat) (I:(madeCells j.cells (k.toNat*p)).toList=cellsOf e xs) (v:(cellsOf e xs).all one=true):
  aN P c n σ M L ⟨d,.makeSlice T x x,ty,pos,aft,g⟩ (λb:Nat=> .slice (some ⟨b,0,none⟩) k.toNat k.toNat) (λb=>Ar e (.slice (some ⟨b,0,none⟩) k.toNat k.toNat) xs::M) (λ_=>L):=λa w s t=>by
 obtain⟨o,l,m,f,i⟩:=(cO.ok A).info;simp only at m f i;have G:=run_make (P:=P) w T E o j (cO.ok B).und l i .i64 .i64 k k u (Int.le_refl _) (by rw[f];exact C) V7;have h:(execOp a.eval ⟨d,.makeSlice T x x,ty,pos,aft,g⟩).run P w = .ok (.value (.slice (some ⟨w.heap.size,0,none⟩) k.toNat k.toNat)) (w.alloc (.cells (cellsOf e xs).toArray E)):=by
  simp only[execOp,s.eval H];have:madeCells j.cells (k.toNat*o.size)=(cellsOf e xs).toArray:=by rw[<-I,m]
  simp[G,this]
 simp only[Oper.wp,h,Oper.upon];exact⟨w.heap.size,rfl,t.allocAr (cellsOf e xs) E F V7 Z v⟩
theorem Nc {T ty E:V9} {s j:Ty} {w:V2} (v:tM P T s) (z:s.desc = .slice E) (u:tM P E j) {b a k i:Nat} {f:Array V0} {r:V9} (y:w.heap[b]? = some (.cells f r (0,0))) {m:Nat} {x:V0} {p:V6 V0} (q:Src P j.size T x m p w)
  (h:k+m<=i) (A:a+i*j.size<=f.size):
  (Builtin.append_ #[T,T] ty #[.slice (some ⟨b,a,none⟩) k i,x]).run P w = .ok (.slice (some ⟨b,a,none⟩) (k+m) i) (w.setRow b (f.toList.take (a+k*j.size)++p++f.toList.drop (a+k*j.size+p.length)).toArray):=by
 have l:a+k*j.size+0+p.length<=f.size:=by
  rw[q.newsLen];have:=zB0 j.size h;rw[zB3]at this;omega
 have o:=run_storeCells_at P b (a+k*j.size) r p 0 f w y l q.one;simp only[Nat.add_zero]at o;have t:=v.run_und w;rw[z]at t;simp[Builtin.append_,t,u.run_size w,q.len,h,q.cells,eM,o]
theorem Tt {T ty E:V9} {q f:Ty} {w:V2} (u:tM P T q) (y:q.desc = .slice E) (t:tM P E f) {base:V1 Addr} {k a:Nat} {b:V6 V0}
  (i:(Builtin.firstCells f.size k (.slice base k a)).run P w.drew = .ok b.toArray w.drew) {m:Nat} {x:V0} {p:V6 V0} (z:Src P f.size T x m p w) (r:a<k+m) (v:(k+m)*f.bytes<=140737488355328) (s:k+m<=140737488355328):
  (Builtin.append_ #[T,T] ty #[.slice base k a,x]).run P w = .ok (.slice (some ⟨w.heap.size,0,none⟩) (k+m) (grownCap w (k+m) a E))
   (w.drew.alloc (.cells ((b++p).toArray++Builtin.zeroCells f.zero.cells (grownCap w (k+m) a E - (k+m))) E)):=by
 obtain⟨B,o,j,l,A⟩:=t.info;have h:=growslice_fits (need:=k+m) (old:=a) (bytes:=f.bytes) r v;exact run_append_grow_src w T T ty E B f.zero (by rw[u.und,y]) o A base k a b (by rw[j];exact i) x m p (by rw[j];exact z) r V7 (by rw[l];exact h)
theorem Bo.src [cO P] {w:V2} {F:Nat->Prop} {v:V0} {i:V6 α} {T E:V9} {s t:Nat} {z:V0} (h:Bo e w F v i) (k:cO.tab P T=some ⟨.slice E,s,t,z⟩):Src P e.sz T v i.length (cellsOf e i) w:=by
 obtain⟨_,o,h⟩:=h;have f:∀u∈cellsOf e i,u.oneCell'=true:=λu a=>nR (zA7.1 o u a);rcases h with⟨rfl,rfl⟩|⟨b,r,l,x,m,rfl,_,p,A,y,q⟩
 .exact Src.ofNil w (cO.ok k).und 0
 .refine Src.ofSlice w (cO.ok k).und _ _ _ _ (eR e i) (λj u a=> ?_) f;rw[<-q,zAt]at a;split at a
  .rw[zAu]at a;rw[eM];simp[World.cell?,p];simpa using a
  .cases a
theorem Bo.old [cO P] {w:V2} {F:Nat->Prop} {v:V0} {f:V6 α} (h:Bo e w F v f):∃base a,v = .slice base f.length a/\(Builtin.firstCells e.sz f.length v).run P w.drew = .ok (cellsOf e f).toArray w.drew:=by
 obtain⟨_,r,h⟩:=h;rcases h with⟨rfl,rfl⟩|⟨b,q,a,m,k,rfl,_,o,t,s,p⟩
 .exact⟨none,0,rfl,run_firstCells_none w.drew e.sz 0 0 0⟩
 .refine⟨_,a,rfl,run_firstCells_some w.drew e.sz f.length _ _ _ _ (eR e f) (λj u i=> ?_)⟩
  rw[<-p,zAt]at i;split at i
  .rw[zAu]at i;rw[eM];have l:w.drew.heap[b]? = some (.cells k m (0,0)):=o;simp[World.cell?,l];simpa using i
  .cases i
theorem Oh (f:List V0) (b a:Nat) (i:List V0) (h:b+a+i.length<=f.length):
  ((f.take (b+a)++i++f.drop (b+a+i.length)).drop b).take (a+i.length)=(f.drop b).take a++i:=by
 have j:b+a - b=a:=by omega
 have k:((f.drop b).take a).length=a:=by simp;omega
 rw[zB6,List.drop_append_of_le_length (by simp;omega),List.drop_take,j,List.take_append,k,List.take_of_length_le (by omega)];have l:a+i.length - a=i.length:=by omega
 rw[l,List.take_append_of_le_length (zAg _),List.take_of_length_le (zAg _)]
structure aiV (w w':World) (F F':Nat->Prop):Prop where
 os:w'.os=w.os
 tape:w'.tape=w.tape
 out:w'.output=w.output
 size:w.heap.size<=w'.heap.size
 same:∀k,k<w.heap.size->¬F k->w'.heap[k]? = w.heap[k]?
 sub:∀k,F' k->F k\/(w.heap.size<=k/\k<w'.heap.size)
theorem Bo.append [cO P] {w:V2} {F:Nat->Prop} {v x:V0} {xs ys:V6 α} {T E ty:V9} {s1 s2 S:Nat} {z V:V0} {W:TypeDesc} (j:Bo e w F v xs) (y:Src P e.sz T x ys.length (cellsOf e ys) w) (A:(cellsOf e ys).all one=true)
  (G:cO.tab P T=some ⟨.slice E,s1,s2,z⟩) (B:cO.tab P E=some ⟨W,e.sz,S,V⟩) (X:(xs.length+ys.length)*S<=140737488355328) (K:xs.length+ys.length<=140737488355328) (hz:V.cells.size=e.sz):
  ∃U w' F',(Builtin.append_ #[T,T] ty #[v,x]).run P w = .ok U w'/\Bo e w' F' U (xs++ys)/\aiV w w' F F':=by
 have l:(cellsOf e (xs++ys)).all one=true:=by
  rw[mM,List.all_append,j.2.1,A];rfl
 obtain⟨base,f,rfl,t⟩:=Bo.old (P:=P) j;by_cases a:xs.length+ys.length<=f
 .have C:=j;obtain⟨_,_,hh⟩:=j;rcases hh with⟨O,rfl⟩|⟨b,p,R,T',i,O,q,r,u,Y,ht⟩
  .cases O;have hy:ys=[]:=zAn (by simpa using a);subst hy;refine⟨.slice none 0 0,w,F,?_,C,⟨rfl,rfl,rfl,zAg _,λ_ _ _=>rfl,λ_ h=> .inl h⟩⟩
   have hu:=(cO.ok G).run_und w;have m:=y.len w;have o:=y.cells;simp only[zAm]at m o;have H:cellsOf e ([]:V6 α)=[]:=rfl;rw[H]at o;simp[Builtin.append_,hu,(cO.ok B).run_size w,m,o]
  .cases O;have N:=Nc (P:=P) (ty:=ty) (cO.ok G) Z (cO.ok B) r y a Y;have s:p+xs.length*e.sz+(cellsOf e ys).length<=i.toList.length:=by
    rw[eR];have:=zB0 e.sz a;rw[zB3]at this;simp;omega
   refine⟨_,_,F,N,⟨by simpa using K,l,.inr ⟨b,p,f,T',_,V8,q,setRow_heap w b _ _ T' _ r,by simpa using a,?_,?_⟩⟩,⟨rfl,rfl,rfl,V8,λk _ J=>setRow_other w b k _ (λe=>J (by subst e;exact q)),λ_ h=> .inl h⟩⟩
   .simp only[List.size_toArray,zA5,List.length_take,List.length_drop];have:i.size=i.toList.length:=V8
    omega
   .have:=Oh i.toList p (xs.length*e.sz) (cellsOf e ys) s;rw[zA5,zB3,<-eR e ys,mM,<-ht];exact this
 .have N:=Tt (P:=P) (ty:=ty) (cO.ok G) Z (cO.ok B) t y V7 X K;have I:=grownCap_ge w (xs.length+ys.length) f E;refine⟨_,_,λk=>k=w.heap.size,N,⟨by simpa using K,l,.inr ⟨w.heap.size,0,grownCap w (xs.length+ys.length) f E,E,_,V8,rfl,heap_alloc_new w.drew _,by simpa using I,?_,?_⟩⟩,
   ⟨rfl,rfl,rfl,V8,λk u _=>Below.heap_alloc w.drew _ k u,λk u=> .inr ⟨V7,by subst u;simp⟩⟩⟩
  .simp only[Nat.zero_add,Array.size_append,List.size_toArray,zA5,eR,size_zeroCells,hz];rw[<-zB3,<-zB3];exact zB0 _ V7
  .simp only[List.drop_zero,Array.toList_append,zA5];rw[<-mM,List.take_append_of_le_length (by rw[eR];simp),List.take_of_length_le (by rw[eR];simp)]
theorem St.append [cO P] {w:V2} (t:St c M L w) {i:Nat} {v x:V0} {xs ys:V6 α} {T E ty:V9} {F G l:Nat} {z m:V0} {o:TypeDesc} (k:M[i]? = some (Ar e v xs)) (B:Src P e.sz T x ys.length (cellsOf e ys) w) (f:(cellsOf e ys).all one=true)
  (r:cO.tab P T=some ⟨.slice E,F,G,z⟩) (q:cO.tab P E=some ⟨o,e.sz,l,m⟩) (s:(xs.length+ys.length)*l<=140737488355328) (u:xs.length+ys.length<=140737488355328) (C:m.cells.size=e.sz):
  ∃b w',(Builtin.append_ #[T,T] ty #[v,x]).run P w = .ok b w'/\St c (M.set i (Ar e b (xs++ys))) L w':=by
 have H:=t;obtain⟨y,I,j,h⟩:=H;obtain⟨b,w',F',A,p,a⟩:=Bo.append (ty:=ty) (j.res i _ k) B f r q s u C;refine⟨b,w',A,?_⟩
 exact Gp y j h k a.os a.tape a.out a.size a.same p a.sub
end
section
variable {P:Program} {rd:V1 Nat} {c:wJ} {n:Sz} {σ:Fr} {M L:V6 aZ} {Q:Exit->Act->V2->Prop} {ops:Array V5} {rest:V6 V5}
variable {d:V1 Tmp} {D:Nat} {ty:V9} {pos:String} {aft:Array Edge} {g:V1 (Nat×V4)}
variable {α:Type} {e:bI α}
theorem aN.alloc [cO P] {T:V9} {h:Ty} {cs:V6 V0} (i:cO.tab P T=some h) (j:h.zero.cells=cs.toArray):
  aN P c n σ M L ⟨d,.alloc T,ty,pos,aft,g⟩ (λb:Nat=> .pointer (some ⟨b,0,none⟩)) (λb=>bH b cs T::M) (λ_=>L):=λa w s t=>by
 have f:(execOp a.eval ⟨d,.alloc T,ty,pos,aft,g⟩).run P w = .ok (.value (.pointer (some ⟨w.heap.size,0,none⟩))) (w.alloc (.cells cs.toArray T)):=by
  simp[execOp,JO w (cO.ok i),j]
 simp only[Oper.wp,f,Oper.upon];exact⟨w.heap.size,rfl,t.alloc cs T⟩
theorem aN.box {T:V9} {x:V3} {v:V0} {cs:V6 V0} (h:ev σ x=some v) (i:v.cells=cs.toArray):
  aN P c n σ M L ⟨d,.box T x,ty,pos,aft,g⟩ (λb:Nat=> .pointer (some ⟨b,0,none⟩)) (λb=>bH b cs T::M) (λ_=>L):=λa w s t=>by
 have f:(execOp a.eval ⟨d,.box T x,ty,pos,aft,g⟩).run P w = .ok (.value (.pointer (some ⟨w.heap.size,0,none⟩))) (w.alloc (.cells cs.toArray T)):=by
  simp[execOp,s.eval h,Instr.box,newVar,newRow,i]
 simp only[Oper.wp,f,Oper.upon];exact⟨w.heap.size,rfl,t.alloc cs T⟩
theorem aN.call {A:Type} {j:A->V0} {m k:A->V6 aZ->V6 aZ} {f:FuncId} {xs:V6 V3} {vs:V6 V0} {b:Array V9} {q:V6 aZ} (v:aU P f)
  (B:a_ P f vs.toArray q j m k) (E:xs.map (ev σ)=vs.map some) (u:mD L q) (p:∀x l,m x l=m x []++l) (o:∀x l,k x l=k x []++l):
  aN P c n σ M L ⟨d,.call ⟨.value (.func f),xs.toArray,b⟩,ty,pos,aft,g⟩ j (λx=>m x M) (λx=>k x L):=λa w s t=>by
 have i:(execOp a.eval ⟨d,.call ⟨.value (.func f),xs.toArray,b⟩,ty,pos,aft,g⟩).run P w = .ok (.enter f vs.toArray) w:=by
  have e:=evs s E;simp[execOp,resolve,Act.eval,Deferred.ofValue,invoke,v _ w,e]
 simp only[Oper.wp,i,Oper.upon];obtain⟨z,F,r,h⟩:=t;refine(B w (Dk c F) (λf y=>h f (u f y))).mono ?_;rintro e w' ⟨x,rfl,C⟩;refine⟨x,rfl,?_⟩
 rw[p,o];exact St.call z r h C
theorem zZ [cO P] {x y:V3} {T:V9} {b f:V0} {a:Act} (s:Hv n σ a) (h:ev σ x=some b) (i:ev σ y=some f) (w:V2):
  (execOp a.eval ⟨d,.call ⟨.builtin .append,#[x,y],#[T,T]⟩,ty,pos,aft,g⟩).run P w=((Builtin.append_ #[T,T] ty #[b,f]).run P w).andThen λv j=> .ok (.value v) j:=by
 simp[execOp,resolve,invoke,builtin,s.eval h,s.eval i]
theorem aN.append [cO P] (i j:Nat) {x y:V3} {v u:V0} {xs ys:V6 α} {T E:V9} {N O f l:Nat} {z m:V0} {o:TypeDesc} (I:ev σ x=some v) (J:ev σ y=some u) (A:M[i]? = some (Ar e v xs)) (B:M[j]? = some (Ar e u ys))
  (k:cO.tab P T=some ⟨.slice E,N,O,z⟩) (q:cO.tab P E=some ⟨o,f,l,m⟩) (p:e.sz=f) (r:(xs.length+ys.length)*l<=140737488355328) (C:xs.length+ys.length<=140737488355328) (K:m.cells.size=f):
  aN P c n σ M L ⟨d,.call ⟨.builtin .append,#[x,y],#[T,T]⟩,ty,pos,aft,g⟩ (λb:V0=>b) (λb=>M.set i (Ar e b (xs++ys))) (λ_=>L):=λa w s t=>by
 subst p;obtain⟨F,h⟩:=t.res B;obtain⟨b,w',G,H⟩:=t.append (ty:=ty) A (Bo.src h k) h.2.1 k q r C K;simp only[Oper.wp,zZ s I J w,G,Result.andThen_ok,Oper.upon];exact⟨b,rfl,H⟩
theorem Fc.src [cO P] {U:Type} {r:eD U} {w:V2} {S:Nat->Prop} {v:V0} {F:V6 U} {T E:V9} {s1 s2:Nat} {z:V0} (h:Fc r w S v F) (N:cO.tab P T=some ⟨.slice E,s1,s2,z⟩) (hr:∀{w S l x},r.R w S l x->l.all one=true):
  ∃cs,Src P r.sz T v F.length cs w/\cs.all one=true/\cs.length=F.length*r.sz/\∀i x,F[i]? = some x->∃l,r.R w S l x/\∀j u,l[j]? = some u->cs[i*r.sz+j]? = some u:=by
 obtain⟨a,B,rfl,W,h⟩:=h;rcases h with rfl|⟨b,q,rfl,_,h⟩
 .cases a with
  |none=>
   refine⟨[],?_,rfl,V8,λi x m=>by simp at m⟩
   exact Src.ofNil w (cO.ok N).und B
  |some a=>
   refine⟨[],?_,rfl,V8,λi x m=>by simp at m⟩
   exact Src.ofSlice w (cO.ok N).und a 0 B [] V8 (λj u f=>by simp at f) (λu f=>by simp at f)
 ·
  have O:∀(A:V6 U) (k:Nat),(∀i x,A[i]? = some x->∃l,(∀j e,l[j]? = some e->w.cell? ⟨b,q+((k+i)*r.sz+j),none⟩=some e)/\r.R w S l x)->
    ∃cs:V6 V0,cs.all one=true/\cs.length=A.length*r.sz/\(∀j u,cs[j]? = some u->w.cell? ⟨b,q+(k*r.sz+j),none⟩=some u)/\∀i x,A[i]? = some x->∃l,r.R w S l x/\∀j u,l[j]? = some u->cs[i*r.sz+j]? = some u:=by
   intro A
   induction A with
   |nil=>intro k _;exact⟨[],rfl,V8,λj u f=>by simp at f,λi x m=>by simp at m⟩
   | cons y A ih =>
    intro k V;obtain⟨l,t,o⟩:=V 0 y Z;obtain⟨cs,G,H,J,K⟩:=ih (k+1) (λi x m=>by
     obtain⟨s,C,p⟩:=V (i+1) x (by simpa using m);refine⟨s,λj u f=> ?_,p⟩
     have:=C j u f;rwa[show k+(i+1)=k+1+i from V7]at this)
    have I:=r.len o;refine⟨l++cs,by rw[List.all_append,hr o,G];rfl,by rw[zA5,H,I,zA9,zB3];omega,?_,?_⟩
    .intro j u f;by_cases Y:j<l.length
     .rw[zAc Y]at f;have:=t j u f;rwa[Nat.add_zero]at this
     .rw[zAb V7]at f;have:=J _ u f;rw[zB3,I]at this;rwa[show q+(k*r.sz+1*r.sz+(j - r.sz))=q+(k*r.sz+j)from V7]at this
    .intro i x m;cases i with
     |zero=>
      simp at m;subst m;refine⟨l,o,λj u f=> ?_⟩
      rw[zAc (by have:=bB f;omega)];simpa using f
     |succ i=>
      obtain⟨s,p,X⟩:=K i x (by simpa using m);refine⟨s,p,λj u f=> ?_⟩
      rw[zAb (by rw[I,zB3];omega),I];rw[show(i+1)*r.sz+j - r.sz=i*r.sz+j from by rw[zB3];omega];exact X j u f
  obtain⟨cs,G,H,J,K⟩:=O F 0 (λi x m=>by
   obtain⟨l,t,o⟩:=h i x m;exact⟨l,λj u f=>by rw[Nat.zero_add];exact t j u f,o⟩)
  refine⟨cs,?_,G,H,K⟩
  refine Src.ofSlice w (cO.ok N).und _ _ _ _ H (λj u f=> ?_) (λu f=>nR (zA7.1 G u f));rw[eM];have:=J j u f;rwa[Nat.zero_mul,Nat.zero_add]at this
def bI.Fits (e:bI α) (r:eD α):Prop:=r.sz=e.sz/\(∀{w S es x},r.R w S es x->es=e.enc x)/\(∀{w S x},r.R w S (e.enc x) x)/\∀x,(e.enc x).all one=true
theorem HX (k:IntKind):(bI.int k).Fits (eD.int k):=⟨rfl,λh=>h,rfl,λ_=>rfl⟩
theorem Kn {f:V6 V0} {a:V6 α} (v:f.length=a.length*e.sz) (h:∀i x,a[i]? = some x->∀j u,(e.enc x)[j]? = some u->f[i*e.sz+j]? = some u):f=cellsOf e a:=by
 apply List.ext_getElem?;intro k;by_cases t:k<a.length*e.sz
 .have b:=e.pos;have s:k / e.sz<a.length:=Nat.div_lt_of_lt_mul (by rw[Nat.mul_comm];exact t);have w:k%e.sz<e.sz:=Nat.mod_lt _ b;have q:a[k / e.sz]? = some (a[k / e.sz]):=zA0 s;have o:=e.len a[k / e.sz];have p:(e.enc a[k / e.sz])[k%e.sz]? = some ((e.enc a[k / e.sz])[k%e.sz]'V7):=zA0 _;have r:k / e.sz*e.sz+k%e.sz=k:=by rw[Nat.mul_comm];exact Nat.div_add_mod k e.sz
  have l:=h _ _ q _ _ p;have m:=yK e a _ _ q _ _ p;rw[r]at l m;rw[l,m]
 .rw[zAp V7,zAp (by rw[eR];omega)]
theorem RI [cO P] {r:eD α} (b:e.Fits r) {w:V2} {S:Nat->Prop} {v:V0} {f:V6 α} {T E:V9} {G H:Nat} {z:V0} (h:Fc r w S v f) (q:cO.tab P T=some ⟨.slice E,G,H,z⟩):
  Src P e.sz T v f.length (cellsOf e f) w/\(cellsOf e f).all one=true:=by
 obtain⟨a,l,_,p⟩:=b;obtain⟨m,B,A,y,s⟩:=Fc.src h q (λ{w S o x} hr=>by rw[l hr];exact p x);have:m=cellsOf e f:=Kn (by rw[y,a]) (λi x F j u C=>by
  obtain⟨o,k,t⟩:=s i x F;rw[<-a];exact t j u (by rw[l k];exact C))
 subst this;rw[<-a];exact⟨B,A⟩
theorem Bo.sl {r:eD α} (a:e.Fits r) {w:V2} {F:Nat->Prop} {v:V0} {l:V6 α} (h:Bo e w F v l):Fc r w F v l:=by
 obtain⟨f,_,p,_⟩:=a;have o:=h;obtain⟨C,_,s⟩:=h;rcases s with⟨rfl,rfl⟩|⟨b,k,cap,T,m,rfl,q,z,B,A,E⟩
 .exact⟨none,0,rfl,V8,.inl Z⟩
 .refine⟨_,cap,rfl,V7,.inr ⟨b,k,rfl,q,λi x y=>⟨e.enc x,λj u t=> ?_,p⟩⟩⟩
  have:=Bo.cell o y t;simp only[KH,eM]at this;rw[f];exact this
def fE {α:Type} (e:bI α) (vs:V6 V0) (xss:V6 (V6 α)):aZ where
 p w F:=vs.length=xss.length/\∃G:Nat->Nat->Prop,(∀i v f,vs[i]? = some v->xss[i]? = some f->Bo e w (G i) v f)/\(∀i k,G i k->F k)/\∀i j k,G i k->G j k->i=j
 mono:=by
  rintro w y S x ⟨s,G,m,h,o⟩ l;refine⟨s,λi k=>G i k/\k<w.heap.size,λi v f t u=>(Ar e v f).mono (m i v f t u) (λk a b=>⟨⟨a,b⟩,(l k (h i k a) b).2⟩),λi k a=>(l k (h i k a.1) a.2).1,λi j k q r=>o i j k q.1 r.1⟩
theorem St.merge {w:V2} (t:St c M L w) (i j:Nat) {J K G:aZ} (E:i≠j) (H:M[i]? = some J) (I:M[j]? = some K)
  (v:∀{w F1 F2},J.p w F1->K.p w F2->(∀k,F1 k->¬F2 k)->G.p w (λk=>F1 k\/F2 k)):St c ((M.set i G).eraseIdx j) L w:=by
 obtain⟨X,F,o,U⟩:=t;have V:=bB H;have W:=bB I;have T:=v (o.res i _ H) (o.res j _ I) (λk R S=>E (o.dis _ _ k R S));let l:Nat->Nat:=λq=>if q<j then q else q+1;refine⟨X,λq b=>q+1<M.length/\(F (l q) b\/(l q=i/\F j b)),⟨?_,?_,?_⟩,λf C=> ?_⟩
 .intro q m v;have Y:=bB v;rw[List.length_eraseIdx_of_lt (by simpa using W),zA2]at Y;have x:q+1<M.length:=V7
  have u:(M.set i G)[l q]? = some m:=by
   rw[List.getElem?_eraseIdx]at v;simp only[l];split
   .rename_i B;rwa[if_pos B]at v
   .rename_i B;rwa[if_neg B]at v
  by_cases A:l q=i
  .rw[A,zAj V]at u;cases u;refine aZ.same T (λb a=>⟨x,?_⟩) (λ_ _ _=>rfl);rcases a with a|a
   .exact .inl (by rw[A];exact a)
   .exact .inr ⟨A,a⟩
  .rw[zAq (Ne.symm A)]at u;exact aZ.same (o.res (l q) m u) (λb a=>⟨x,.inl a⟩) (λ_ _ _=>rfl)
 .rintro q b ⟨_,a|⟨_,a⟩⟩
  .exact o.rng _ b a
  .exact o.rng _ b a
 .have z:∀q,l q≠j:=by intro q;simp only[l];split<;>omega
  have y:∀q r,l q=l r->q=r:=by intro q r;simp only[l];split<;>split<;>omega
  rintro q r b ⟨_,a|⟨N,a⟩⟩ ⟨_,s|⟨O,s⟩⟩
  .exact y _ _ (o.dis _ _ b a s)
  .exact absurd (o.dis _ _ b a s) (z q)
  .exact absurd (o.dis _ _ b s a) (z r)
  .exact y _ _ (N.trans O.symm)
 .exact aZ.same (U f C) (λb a=>⟨a.1,by
   rintro q ⟨_,h|⟨_,h⟩⟩
   .exact a.2 _ h
   .exact a.2 _ h⟩) (λ_ _ _=>rfl)
theorem Zv (i j:Nat) {u:V0} {k:Int} {z:V6 V0} {v:V6 (V6 α)} {F:V6 α} {G:Act->V2->Prop} (C:Nat.beq i j=false) (U:M[i]? = some (fE e z v)) (V:M[j]? = some (Ar e u F)) (X:0<=k) (Y:k<z.length)
  (h:J c n σ ((M.set i (fE e (z.set k.toNat u) (v.set k.toNat F))).eraseIdx j) L G):J c n σ M L G:=λa w s t=>
 h a w s (t.merge i j (λe=>by subst e;simp at C) U V (by
  rintro w W O ⟨p,G,R,B,S⟩ T K;have E:k.toNat<z.length:=V7
  refine⟨by simp[p],λr b=>(r=k.toNat/\O b)\/(r≠k.toNat/\G r b),?_,?_,?_⟩
  .intro r N q l m;by_cases A:r=k.toNat
   .subst A;rw[zAj E]at l;rw[zAj V7]at m;cases l;cases m;exact aZ.same (f:=Ar e u F) T (λb o=> .inl ⟨rfl,o⟩) (λ_ _ _=>rfl)
   .rw[zAq (Ne.symm A)]at l m;exact aZ.same (f:=Ar e N q) (R r N q l m) (λb o=> .inr ⟨A,o⟩) (λ_ _ _=>rfl)
  .rintro r b (⟨_,o⟩|⟨_,o⟩)
   .exact .inr o
   .exact .inl (B r b o)
  .rintro r1 r2 b (⟨H,x⟩|⟨H,x⟩) (⟨I,y⟩|⟨I,y⟩)
   .rw[H,I]
   .exact absurd x (K b (B _ b y))
   .exact absurd y (K b (B _ b x))
   .exact S _ _ b x y))
theorem afz {r:eD α} (h:e.Fits r) {v:V0} {f:V6 V0} {a:V6 (V6 α)} {w:V2} {z A:Nat->Prop} (B:(Ar bI.raw v f).p w z) (K:(fE e f a).p w A):Fc (eD.sl r) w (λk=>z k\/A k) v (f.zip a):=by
 obtain⟨i,G,I,J,_⟩:=K;have F:(f.zip a).length=f.length:=by simp[i]
 have o:=B;obtain⟨V,_,N⟩:=B;rcases N with⟨rfl,rfl⟩|⟨b,y,m,T,H,rfl,s,S,C,U,W⟩
 .exact⟨none,0,rfl,V8,.inl Z⟩
 .refine⟨_,m,by rw[F],by rw[F];omega,.inr ⟨b,y,rfl,.inl s,λq x l=> ?_⟩⟩
  have E:f[q]? = some x.1:=by rw[List.getElem?_zip_eq_some]at l;exact l.1
  have t:a[q]? = some x.2:=by rw[List.getElem?_zip_eq_some]at l;exact l.2
  refine⟨[x.1],λR u O=> ?_,rfl,?_⟩
  .have:=Bo.cell o E (j:=R) (u:=u) O;simp only[KH,eM]at this;exact this
  .exact(Sl r x.1 x.2).mono (Bo.sl h (I q _ _ E t)) (λk C _=>⟨.inr (J _ k C),rfl⟩)
def agK (p:Prop):aZ:=⟨λ_ _=>p,λh _=>h⟩
theorem agH {p:Prop} {G:Act->V2->Prop} (b:agK p∈L) (h:p->J c n σ M L G):J c n σ M L G:=λa w s t=>h (by obtain⟨_,f⟩:=t.fact b;exact f) a w s t
end
theorem mixedOrders:Go.Proofs.Tryz.prog.follows .mixedOrders=true:=by kernel_rfl
section
variable {P:Program} {rd:V1 Nat} {c:wJ} {n:Sz} {σ:Fr} {M L:V6 aZ} {Q:Exit->Act->V2->Prop} {ops:Array V5} {rest:V6 V5}
theorem B_ {d:V1 Tmp} {j:V9} {h:String} {e:Array Edge} {g:V1 (Nat×V4)} {T:V9} {ps:V6 (Nat×V3)} {vs:V6 (Nat×V0)} {r:V0} (b:ps.map (λp=>(p.1,ev σ p.2))=vs.map (λp=>(p.1,some p.2)))
  (i:∀w,(Instr.build T vs.toArray).run P w = .ok r w):Y P c n σ M L ⟨d,.build T ps.toArray,j,h,e,g⟩ r:=λa w s _=>by
 have f:ps.map (λp=>(p.1,a.eval p.2))=vs:=by
  clear i
  induction ps generalizing vs with
  |nil=>cases vs<;>simp_all
  | cons p ps ih =>
   cases vs with
   |nil=>simp at b
   |cons q vs=>
    simp only[zBd,List.cons.injEq,Prod.mk.injEq]at b;simp only[zBd,s.eval b.1.2,b.1.1,ih b.2]
 simp only[execOp,List.map_toArray,f];simp[i w]
theorem Dm {d:V1 Tmp} {f:V9} {b:String} {a:Array Edge} {g:V1 (Nat×V4)} {T:V9} {r:V0} (e:∀w,(Instr.build T ([]:V6 (Nat×V0)).toArray).run P w = .ok r w):Y P c n σ M L ⟨d,.build T #[],f,b,a,g⟩ r:=
 B_ (ps:=[]) (vs:=[]) V8 e
theorem Ps {d:V1 Tmp} {k:V9} {e:String} {b:Array Edge} {g:V1 (Nat×V4)} {T:V9} {a:Nat} {h:V3} {f r:V0} (i:ev σ h=some f) (j:∀w,(Instr.build T ([(a,f)]:V6 (Nat×V0)).toArray).run P w = .ok r w):Y P c n σ M L ⟨d,.build T #[(a,h)],k,e,b,g⟩ r:=
 B_ (ps:=[(a,h)]) (vs:=[(a,f)]) (by simp[i]) j
theorem El {d:V1 Tmp} {p:V9} {f:String} {e:Array Edge} {g:V1 (Nat×V4)} {T:V9} {a b:Nat} {j k:V3} {h i r:V0} (l:ev σ j=some h) (m:ev σ k=some i) (o:∀w,(Instr.build T ([(a,h),(b,i)]:V6 (Nat×V0)).toArray).run P w = .ok r w):Y P c n σ M L ⟨d,.build T #[(a,j),(b,k)],p,f,e,g⟩ r:=
 B_ (ps:=[(a,j),(b,k)]) (vs:=[(a,h),(b,i)]) (by simp[l,m]) o
theorem LR {d:V1 Tmp} {u:V9} {h:String} {f:Array Edge} {g:V1 (Nat×V4)} {T:V9} {a b e:Nat} {l m o:V3} {i j k r:V0} (p:ev σ l=some i) (q:ev σ m=some j) (s:ev σ o=some k) (t:∀w,(Instr.build T ([(a,i),(b,j),(e,k)]:V6 (Nat×V0)).toArray).run P w = .ok r w):Y P c n σ M L ⟨d,.build T #[(a,l),(b,m),(e,o)],u,h,f,g⟩ r:=
 B_ (ps:=[(a,l),(b,m),(e,o)]) (vs:=[(a,i),(b,j),(e,k)]) (by simp[p,q,s]) t
theorem Pt {d:V1 Tmp} {z:V9} {i:String} {h:Array Edge} {g:V1 (Nat×V4)} {T:V9} {a b e f:Nat} {o p q s:V3} {j k l m r:V0} (t:ev σ o=some j) (u:ev σ p=some k) (v:ev σ q=some l) (x:ev σ s=some m) (y:∀w,(Instr.build T ([(a,j),(b,k),(e,l),(f,m)]:V6 (Nat×V0)).toArray).run P w = .ok r w):Y P c n σ M L ⟨d,.build T #[(a,o),(b,p),(e,q),(f,s)],z,i,h,g⟩ r:=
 B_ (ps:=[(a,o),(b,p),(e,q),(f,s)]) (vs:=[(a,j),(b,k),(e,l),(f,m)]) (by simp[t,u,v,x]) y
theorem dU (cs:Array V0):(Value.agg cs).cells=cs:=rfl
end
section
variable {P:Program} {rd:V1 Nat} {c:wJ} {n:Sz} {σ:Fr} {M L:V6 aZ} {Q:Exit->Act->V2->Prop} {l:V6 V5} {m:V6 Nat} {k0:Nat} {H Bs:V6 (Nat×V6 aZ×V6 aZ)} {rest:V6 Nat}
theorem JR.open {r:V6 Nat} (e:List.range l.length=r) (h:JR c n σ M L H Bs (RW P l.toArray Q (before m) (eG l) k0 r)):JR c n σ M L H Bs (RW P l.toArray Q (before m) (eG l) k0 (List.range l.length)):=by rw[e];exact h
end
theorem UB {c:Array V5} {x y:V5} (h:x.apart c y=true):y.apart c x=true:=by
 obtain⟨g,i,j⟩:=Oper.apart_spec h;unfold Oper.apart;rw[zA4];constructor
 .cases f:y.dst with
  |none=>rfl
  |some d=>
   have a:=j d f;have b:x.dst≠some d:=λe=>i d e (by rw[f]);simp[a,b]
 .cases k:x.dst with
  |none=>rfl
  |some d=>simp[g d k]
def ahz (l:V6 V5) (m:V6 Nat) (a:Nat):V4:=
  (List.range l.length).all λi=>match l[i]? with
    |none=>false
    | some o =>
      (vT o).all (λe=>Nat.blt e i&&before m i e) &&
      (List.range l.length).all (λk=> !before m i k||(Nat.blt k i&&(vT o).any (λe=>Nat.beq e k||before m e k))) &&
      !DT o.op &&
      (if Nat.ble a i then(List.range i).all (λx=>before m i x)
       else(List.range i).all (λx=>before m i x||(match l[x]? with|none=>false|some b=>b.apart l.toArray o)))
structure adq (l:List Oper) (m:List Nat) (k0:Nat):Prop where
 edge:∀(i:Nat) (o:Oper),l[i]? = some o->∀e∈vT o,e<i/\before m i e=true
 trans:∀(i:Nat) (o:Oper),l[i]? = some o->∀k,before m i k=true->k<l.length->k<i/\∃e∈vT o,e=k\/before m e k=true
 sel:∀(i:Nat) (o:Oper),l[i]? = some o->∀cs b,o.op ≠ .select cs b
 tail:∀i x,i<l.length->k0<=i->x<i->before m i x=true
 ind:∀(i x:Nat) (oi ox:Oper),l[i]? = some oi->l[x]? = some ox->i<k0->x<i->before m i x=false->ox.apart l.toArray oi=true
theorem Yd {l:V6 V5} {m:V6 Nat} {q:Nat} (h:ahz l m q=true):adq l m q:=by
  have a:∀(i:Nat) (o:V5),l[i]? = some o->
      ((vT o).all (λe=>Nat.blt e i&&before m i e)=true)/\
      ((List.range l.length).all (λk=> !before m i k||(Nat.blt k i&&(vT o).any (λe=>Nat.beq e k||before m e k)))=true)/\DT o.op=false/\
      ((if Nat.ble q i then(List.range i).all (λx=>before m i x)
       else(List.range i).all (λx=>before m i x||(match l[x]? with|none=>false|some r=>r.apart l.toArray o)))=true):=by
    intro i o c;have:=zA7.1 h i (zAi.2 (bB c));simp only[c,zA4,Bool.not_eq_true']at this;exact⟨this.1.1.1,this.1.1.2,this.1.2,this.2⟩
  refine⟨?_,?_,?_,?_,?_⟩
  · intro i o c e j;have:=zA7.1 (a i o c).1 e j;simp only[zA4,zAy]at this;exact this
  · intro i o c k g d;have:=zA7.1 (a i o c).2.1 k (zAi.2 d);simp only[g,Bool.not_true,Bool.false_or,zA4,zAy,List.any_eq_true,zAx]at this;obtain⟨s,e,j,f⟩:=this;refine⟨s,e,j,?_⟩
    rcases f with f|f
    · exact .inl (zA6 f)
    · exact .inr f
  · intro i o c v b e;have:=(a i o c).2.2.1;rw[e]at this;cases this
  · intro i x n g p;obtain⟨o,c⟩:∃o,l[i]? = some o:=⟨_,zA0 n⟩
    have:=(a i o c).2.2.2;rw[if_pos (by simpa using g)]at this;exact zA7.1 this x (zAi.2 p)
  · intro i x u r n p g d t;have:=(a i u n).2.2.2;rw[if_neg (by simpa using g)]at this;have:=zA7.1 this x (zAi.2 d);simp only[t,Bool.false_or,p]at this;exact this
def Lin (l:V6 V5):Array V4->V6 Nat->Prop
 |listed,[]=>∀i,i<l.length->listed.getD i true=true
 |listed,i::s=>i∈Region.ready .any l.toArray listed/\Lin l (listed.setIfInBounds i true) s
def left (l:V6 V5) (a:Array V4):V6 Nat:=(List.range l.length).filter λi=> !a.getD i true
theorem mem_left {l:V6 V5} {a:Array V4} {i:Nat}:i∈left l a↔i<l.length/\a.getD i true=false:=by
 unfold left;rw[List.mem_filter,zAi];constructor
 .rintro⟨b,c⟩;exact⟨b,by simpa using c⟩
 .rintro⟨b,c⟩;exact⟨b,by rw[c];rfl⟩
theorem abr {l:V6 V5} {a:Array V4} (c:a.size=l.length) {i:Nat} (d:i∈left l a):(left l (a.setIfInBounds i true)).length<(left l a).length:=by
 have b:=(mem_left.1 d).1;have:left l (a.setIfInBounds i true)=(left l a).filter (λj=> !(j==i)):=by
  unfold left;rw[List.filter_filter];apply List.filter_congr;intro j f;by_cases e:i=j
  .subst e;simp[c,b]
  .rw[getD_set_ne true e];have:(j==i)=false:=by simpa using λh=>e h.symm
   simp[this]
 rw[this];apply List.length_filter_lt_length_iff_exists.2;exact⟨i,d,V8⟩
theorem aic {l:V6 V5} {m:V6 Nat} {A:Nat} (hc:adq l m A):∀(b t:Nat) (a:Array V4),(left l a).length<=b->a.size=l.length->Lin l a (Region.linearise.go .any l.toArray b t a []):=by
 intro b
 induction b with
 | zero =>
  intro t a k f;simp only[Region.linearise.go,List.reverse_nil,Lin];intro i g;cases h:a.getD i true with
  |true=>rfl
  |false=>
   have:=mem_left.2 ⟨g,h⟩;have c:left l a=[]:=zAn V7;rw[c]at this;simp at this
 | succ b ih =>
  intro t a k f;simp only[Region.linearise.go];change Lin l a (match (Region.ready .any l.toArray a)[t%(Region.ready .any l.toArray a).length]? with
   |some i=>Region.linearise.go .any l.toArray b (t / (Region.ready .any l.toArray a).length) (a.setIfInBounds i true) [i]
   |none=>[].reverse)
  cases g:(Region.ready .any l.toArray a)[t%(Region.ready .any l.toArray a).length]? with
  | none =>
   have c:Region.ready .any l.toArray a=[]:=by
    cases z:Region.ready .any l.toArray a with
    |nil=>rfl
    |cons x u=>
     rw[z]at g;have d:t%(x::u).length<(x::u).length:=Nat.mod_lt _ V8;simp at g;simp at d;omega
   simp only[List.reverse_nil,Lin];intro i
   induction i using Nat.strongRecOn with
   | _ i ihi =>
    intro d;cases h:a.getD i true with
    |true=>rfl
    | false =>
     exfalso;obtain⟨o,n⟩:∃o,l[i]? = some o:=⟨_,zA0 d⟩
     have:i∈Region.ready .any l.toArray a:=by
      refine mem_ready.2 ⟨h,o,by simpa using n,λe y w=> ?_⟩;have p:e.on∈vT o:=zAs.2 ⟨e,List.mem_filter.2 ⟨by simpa using y,w⟩,rfl⟩;have q:=(hc.edge i o n e.on p).1;have s:=ihi e.on q V7;have:e.on<a.size:=V7
      simp[this]at s ⊢;exact s
     rw[c]at this;simp at this
  |some i=>
   simp only[];rw[linearise_go_acc,List.reverse_singleton,List.singleton_append];have j:=zA3 g;refine⟨j,ih _ _ ?_ (by simp[f])⟩
   obtain⟨v,o,n,_⟩:=mem_ready.1 j;have r:i∈left l a:=mem_left.2 ⟨by have:=(zAh.1 n).1;simpa using this,v⟩;have:=abr f r;omega
section
variable {P:Program} {Q:Exit->Act->V2->Prop} {l:V6 V5} {m:V6 Nat} {k0:Nat}
theorem ZG (hc:adq l m k0):∀(s:V6 Nat) (L:V6 Nat) (c:Array V4) (a:Act) (w:V2) (H:V6 (Nat×V2)) (Bs:V6 (Nat×(V2->Prop))),
  Lin l c s->c.size=l.length->L.Nodup->L.Pairwise (λx i=>before m x i=false)->(∀i,i∈L↔i<l.length/\c.getD i true=false)->
  (∀j k,c.getD j false=true->before m j k=true->k<l.length->c.getD k false=true)->L.filter (eG l)=s.filter (eG l)->
  RW P l.toArray Q (before m) (eG l) k0 L a w H Bs->Nt P l.toArray Q s a w:=by
 intro s
 induction s with
 | nil =>
  intro L c a w H Bs C ac ai ak n T K h;have hL:L=[]:=by
   cases L with
   |nil=>rfl
   |cons i L=>
    have:=(n i).1 zAe;rw[C i this.1]at this;cases this.2
  subst hL;exact h
 | cons i s ih =>
  intro L c a w H Bs C ac ai ak n T K h;obtain⟨hi,X⟩:=C;obtain⟨h0,o,aj,U⟩:=mem_ready.1 hi;have ho:l[i]? = some o:=by simpa using aj
  have Y:i<l.length:=bB ho;have aq:i∈L:=(n i).2 ⟨Y,h0⟩;obtain⟨p,L2,rfl⟩:=List.append_of_mem aq;have q:=List.nodup_append.1 ai;have M:i∉p:=λd=>(q.2.2 i d i zAe) Z;have ap:i∉L2:=(zBh.1 q.2.1).1;have u:=List.pairwise_append.1 ak;have J:∀x∈p,before m x i=false:=λx d=>u.2.2 x d i zAe;have N:∀k,before m i k=true->k<l.length->c.getD k false=true:=by
   intro k hk ah;obtain⟨_,e,he,V⟩:=hc.trans i o ho k hk ah;obtain⟨ed,an,rfl⟩:=zAs.1 he;obtain⟨ae,af⟩:=List.mem_filter.1 an;have hl:=U ed (by simpa using ae) af;rcases V with rfl|V
   .exact hl
   .exact T _ _ hl V ah
  have aa:∀x∈p,before m i x=false:=by
   intro x d;cases hb:before m i x with
   |false=>rfl
   |true=>
    have t:=((n x).1 (by simp[d]))
    have:=N x hb t.1;have au:x<c.size:=V7
    simp[au]at this t;rw[this]at t;simp at t
  have D:eG l i=true->∀x∈p,eG l x=false:=by
   intro g x d;rw[List.filter_append,List.filter_cons_of_pos g,List.filter_cons_of_pos g]at K;cases ar:eG l x with
   |false=>rfl
   | true =>
    exfalso;have hm:x∈p.filter (eG l):=List.mem_filter.2 ⟨d,ar⟩;cases hL:p.filter (eG l)with
    |nil=>rw[hL]at hm;simp at hm
    |cons y ys=>
     rw[hL,List.cons_append]at K;have:y=i:=(List.cons.inj K).1;have hy:y∈p.filter (eG l):=by rw[hL];exact zAe
     rw[this]at hy;exact M (List.mem_filter.1 hy).1
  have ao:(p++L2).filter (eG l)=s.filter (eG l):=by
   rw[List.filter_append]at K ⊢;cases g:eG l i with
   |false=>rw[List.filter_cons_of_neg (by rw[g];simp),List.filter_cons_of_neg (by rw[g];simp)]at K;exact K
   |true=>
    have hn:p.filter (eG l)=[]:=List.filter_eq_nil_iff.2 (λx d=>by rw[D g x d];simp);rw[List.filter_cons_of_pos g,List.filter_cons_of_pos g,hn]at K;rw[hn];exact(List.cons.inj K).2
  have next:∀G I H' S,RW P l.toArray Q (before m) (eG l) k0 (p++L2) G I H' S->Nt P l.toArray Q s G I:=by
   intro G I H' S hr;refine ih (p++L2) _ G I H' S X (by simp[ac]) ?_ ?_ ?_ ?_ ao hr
   .exact List.nodup_append.2 ⟨q.1,(zBh.1 q.2.1).2,λx d y hy=>q.2.2 x d y (zAk _ hy)⟩
   .exact List.pairwise_append.2 ⟨u.1,(List.pairwise_cons.1 u.2.1).2,λx d y hy=>u.2.2 x d y (zAk _ hy)⟩
   .intro j;by_cases e:i=j
    .subst e;constructor
     .intro f;rcases zBa.1 f with f|f
      .exact absurd f M
      .exact absurd f ap
     .rintro⟨_,f⟩;simp[ac,Y]at f
    .rw[getD_set_ne true e];have:=n j;simp only[zBa,zAo]at this ⊢;constructor
     .intro f;exact this.1 (by rcases f with f|f;exact .inl f;exact .inr (.inr f))
     .intro f;rcases this.2 f with f|rfl|f
      .exact .inl f
      .exact absurd Z e
      .exact .inr f
   .intro j k f ag hk;by_cases e:i=j
    .subst e;exact getD_set_true (N k ag hk)
    .rw[getD_set_ne false e]at f;exact getD_set_true (T j k f ag hk)
  have E:l.toArray[i]? = some o:=aj;rw[VQ];have F:∀x∈p,x<l.length:=λx d=>((n x).1 (by simp[d])).1;by_cases hk:k0<=i
  .have ad:p=[]:=by
    cases p with
    |nil=>rfl
    |cons x p=>
     exfalso;have z:=aa x zAe;have A:=J x zAe;have d:=F x zAe;rcases zB7 x i with r|r|r
     .rw[hc.tail i x Y hk r]at z;cases z
     .exact M (by rw[<-r];exact zAe)
     .rw[hc.tail x i d V7 r]at A;cases A
   subst ad;simp only[List.nil_append,RW,E]at h;unfold wpOp;simp only[E];split
   .rename_i hw;rw[if_pos hw]at h;rcases h with⟨_,h|h⟩|⟨h,_⟩|⟨h,_⟩
    .exact .inl (Oper.wp_mono (λG I hr=>next G I _ _ hr) h)
    .exact .inr (Oper.rnd_mono (λG I hr=>next G I _ _ hr) h)
    .omega
    .omega
   .rename_i hw;rw[if_neg hw]at h;exact next _ _ _ _ h
  .have W:i<k0:=V7
   have O:∀x∈p,LC l.toArray (before m) (eG l) x i/\x<k0:=by
    intro x d;have t:=F x d;obtain⟨ox,ab⟩:∃ox,l[x]? = some ox:=⟨_,zA0 t⟩
    have al:x<k0:=by
     rcases zAr x k0 with r|r
     .exact r
     .have:=J x d;rw[hc.tail x i t r V7]at this;cases this
    have am:ox.apart l.toArray o=true:=by
     rcases zB7 x i with r|r|r
     .exact hc.ind i x o ox ho ab W r (aa x d)
     .exact absurd (by rw[<-r];exact d) M
     .exact UB (hc.ind x i ox o ab ho al r (J x d))
    refine⟨⟨aa x d,J x d,?_,?_⟩,al⟩
    .intro aw av z A;have e1:ox=aw:=by simpa [ab]using z
     have e2:o=av:=by simpa [ho]using A
     rw[<-e1,<-e2];exact am
    .cases g:eG l i with
     |false=>exact .inr Z
     |true=>exact .inl (D g x d)
   have R:∀(i:Nat) (o:V5),l.toArray[i]? = some o->∀cs b,o.op ≠ .select cs b:=λi o h=>hc.sel i o (by simpa using h);unfold wpOp;simp only[E];cases hl:eG l i with
   | false =>
    rcases Ha R E W hl p a w H Bs O h with⟨z,A⟩|⟨z,v,B,⟨hb,_,hr⟩,A⟩
    .rw[z];exact next _ _ _ _ A
    .rw[z];exact .inl (by simp only[Oper.wp,hr w hb,Oper.upon];exact next _ _ _ _ A)
   | true =>
    rcases H_ R E W hl p a w H Bs O h with⟨z,A⟩|⟨z,A⟩
    .rw[z];exact next _ _ _ _ A
    .rw[z];exact .inl (MP (pW (λG I hh=>next G I _ _ hh.2) A))
def MB (x:Nat):V6 Nat->V6 (V6 Nat)
 | []=>[[x]]
 |y::ys=>(x::y::ys)::(MB x ys).map (y::·)
def DL:V6 Nat->V6 (V6 Nat)
 | []=>[[]]
 |x::xs=>(DL xs).flatMap (MB x)
theorem MK (x:Nat) (b:V6 Nat):∀a:V6 Nat,a++x::b∈MB x (a++b)
 | []=>by cases b<;>simp[MB]
 |y::a=>by
  simp only[List.cons_append,MB,zAo,zAs];exact .inr ⟨_,MK x b a,rfl⟩
theorem Hg:∀(l s:V6 Nat),s.Perm l->s∈DL l
 | [],s,h=>by simp[DL,h.eq_nil]
 | x :: l, s, h => by
  have d:x∈s:=h.symm.subset zAe;obtain⟨a,b,rfl⟩:=List.append_of_mem d;have c:(a++b).Perm l:=by
   have:(x::(a++b)).Perm (x::l):=(List.perm_middle.symm).trans h;exact(List.perm_cons x).1 this
  simp only[DL,List.mem_flatMap];exact⟨a++b,Hg l _ c,MK x b a⟩
def pw (m:V6 Nat):V6 Nat->V4
 | []=>true
 |x::L=>L.all (λi=> !before m x i && !Nat.beq x i)&&pw m L
theorem Xk (m:V6 Nat):∀L:V6 Nat,pw m L=true->L.Nodup/\L.Pairwise (λx i=>before m x i=false)
 | [],_=>⟨List.nodup_nil,List.Pairwise.nil⟩
 |x::L,h=>by
  simp only[pw,zA4]at h;obtain⟨b,c⟩:=Xk m L h.2;have a:=zA7.1 h.1;refine⟨zBh.2 ⟨λe=> ?_,b⟩,List.pairwise_cons.2 ⟨λi d=> ?_,c⟩⟩
  .have:=a x e;simp at this
  .have:=a i d;simp only[zA4,Bool.not_eq_true']at this;exact this.1
def aaz (l:V6 V5) (m:V6 Nat) (LL:V6 (V6 Nat)):V4:=
 (LL.all λL=>pw m L&&L.all (λi=>Nat.blt i l.length)&&(List.range l.length).all (λi=>L.contains i)) &&
 ((DL ((List.range l.length).filter (eG l))).all λs=> !pw m s||LL.any λL=>L.filter (eG l)==s)
theorem NU {hc:adq l m k0}:∀(s:V6 Nat) (a:Array V4),a.size=l.length->Lin l a s->
  (∀j k,a.getD j false=true->before m j k=true->k<l.length->a.getD k false=true)->
  s.Nodup/\(∀i,i∈s↔i<l.length/\a.getD i true=false)/\s.Pairwise (λx i=>before m x i=false)
 | [],a,_,h,_=>⟨List.nodup_nil,λi=>⟨λB=>by simp at B,fun⟨z,g⟩=>by rw[h i z]at g;cases g⟩,List.Pairwise.nil⟩
 | i :: s, a, hsz, h, hcl => by
  obtain⟨M,y⟩:=h;obtain⟨I,o,C,d⟩:=mem_ready.1 M;have F:l[i]? = some o:=by simpa using C
  have t:=bB F;have c:∀k,before m i k=true->k<l.length->a.getD k false=true:=by
   intro k w r;obtain⟨_,e,L,f⟩:=hc.trans i o F k w r;obtain⟨H,A,rfl⟩:=zAs.1 L;obtain⟨n,p⟩:=List.mem_filter.1 A;have y:=d H (by simpa using n) p;rcases f with rfl|f
   .exact y
   .exact hcl _ _ y f r
  obtain⟨z,g,J⟩:=NU (hc:=hc) s (a.setIfInBounds i true) (by simp[hsz]) y (λj k E q w=>by
   by_cases e:i=j
   .subst e;exact getD_set_true (c k q w)
   .rw[getD_set_ne false e]at E;exact getD_set_true (hcl j k E q w))
  have v:i∉s:=λB=>by
   have:=((g i).1 B).2;simp[hsz,t]at this
  refine⟨zBh.2 ⟨v,z⟩,λj=> ?_,List.pairwise_cons.2 ⟨λx G=> ?_,J⟩⟩
  .by_cases e:i=j
   .subst e;simp[t,I]
   .rw[zAo,g j,getD_set_ne true e];constructor
    .rintro(h|h)
     .exact absurd h.symm e
     .exact h
    .exact λh=> .inr h
  .cases K:before m i x with
   |false=>rfl
   |true=>
    have b:=(g x).1 G;have D:i≠x:=λe=>v (e▸G);rw[getD_set_ne true D]at b;have:=c x K b.1;have u:x<a.size:=V7
    simp[u]at this b;rw[this]at b;simp at b
theorem Kg {S:V1 Nat} {id:Nat} {a:Act} {w:V2} (E:V6 (V6 Nat)) (M:l.all kD=true) (O:P.follows .mixedOrders=true) (J:ahz l m k0=true) (C:aaz l m E=true)
  (h:∀L∈E,RW P l.toArray Q (before m) (eG l) k0 L a w.drew [] []):(Code.region id l.toArray true).wpr S P Q a w:=by
 refine KV M λt=> ?_;have f:=Yd J;simp only[Region.schedule,O,Bool.true_or,if_true,Region.linearise];have H:∀i,i<l.length->(Array.replicate l.toArray.size false).getD i true=false:=λi d=>by simp[d]
 have n:∀j k,(Array.replicate l.toArray.size false).getD j false=true->before m j k=true->k<l.length->(Array.replicate l.toArray.size false).getD k false=true:=by
  intro j k A;simp[Array.getElem?_replicate]at A;split at A<;>simp at A
 have c:=aic f l.toArray.size t (Array.replicate l.toArray.size false) (by unfold left;exact zB4 (List.length_filter_le _ _) V8) V8;generalize Region.linearise.go .any l.toArray l.toArray.size t (Array.replicate l.toArray.size false) []=s at c;obtain⟨K,o,R⟩:=NU (hc:=f) s _ V8 c n;simp only[aaz,zA4]at C;have g:s.Perm (List.range l.length):=by
  refine(List.perm_ext_iff_of_nodup K List.nodup_range).2 λi=> ?_;rw[o i,zAi];exact⟨λh=>h.1,λh=>⟨h,H i h⟩⟩
 have B:=Hg _ _ (g.filter (eG l));have v:=zA7.1 C.2 _ B;have u:pw m (s.filter (eG l))=true:=by
  have p:(s.filter (eG l)).Nodup:=List.Pairwise.filter _ K;have r:(s.filter (eG l)).Pairwise (λx i=>before m x i=false):=List.Pairwise.filter _ R;generalize s.filter (eG l)=q at p r
  induction q with
  |nil=>rfl
  |cons x q D=>
   have F:=zBh.1 p;have G:=List.pairwise_cons.1 r;simp only[pw,zA4,zA7,Bool.not_eq_true'];refine⟨λi d=>⟨G.1 i d,oC (λe=>F.1 (e▸d))⟩,D F.2 G.2⟩
 rw[u]at v;simp only[Bool.not_true,Bool.false_or,List.any_eq_true]at v;obtain⟨L,I,N⟩:=v;have b:=zA7.1 C.1 L I;simp only[zA4,zA7,zAy,zAi,List.contains_iff_mem]at b;obtain⟨y,z⟩:=Xk m L b.1.1;exact ZG f s L _ a _ [] [] c V8 y z (λi=>⟨λd=>⟨b.1.2 i d,H i (b.1.2 i d)⟩,λd=>b.2 i d.1⟩) n (by simpa using N) (h L I)
theorem Gl {k:V1 Nat} {c:wJ} {n:Sz} {d:Fr} {M L:V6 aZ} {id:Nat} (m:V6 Nat) (k0:Nat) (b:V6 (V6 Nat)) (g:P.follows .mixedOrders=true) (e:ahz l m k0=true) (j:aaz l m b=true)
  (h:∀o∈b,JR c n d M L [] [] (RW P l.toArray Q (before m) (eG l) k0 o)) (f:l.all kD=true:=by rfl):J c n d M L ((Code.region id l.toArray true).wpr k P Q):=λa w s t=>
 Kg b f g e j λo i=>h o i a w.drew [] [] s (t.ext ((Below.refl _ _).drew)) trivial trivial
end
end Go.Sx
section
set_option maxRecDepth 100000
namespace Go.Sx
open Go.RowKit Go.ChangeShapes Go.WideShapes Go.ChangeAt Go.Proofs Go.Joins
theorem amu:ownKnob prog.godebug=none:=by kernel_rfl
theorem ajI:laidOutB prog=true:=by kernel_rfl
section
variable {H:Type} {enc:V9×V0->H} {P:Program}
theorem Hn (j:laidOutB P=true) {W g:V2} (i:Ph W g):∀(a:V6 V9) (e:V6 V0) (c:V6 (DataW H)) (p:V6 MemPlace),(a.all λt=>P.readableRec t&&decide (t<P.types.size))=true->
  DataW.TrodAll enc P W 0 (λ_=>true) true a e c p->(∀x∈p,x.block<W.heap.size)->DataW.TrodAll enc P g 0 (λb=>decide (b<W.heap.size)) true a e c p
 | [],[],[],_,_,h,_=>h
 |t::a,v::e,d::c,ps,hr,h,hlt=>by
  obtain⟨p,q,k,l,rfl⟩:=h;simp only[List.all_cons,zA4,zA1]at hr;exact⟨p,q,Below.trod j hr.1.1 hr.1.2 k i (λx f=>hlt x (List.mem_append_left _ f)),Hn j i a e c q (by simpa using hr.2) l (λx f=>hlt x (List.mem_append_right _ f)),rfl⟩
 | [],[],_::_,_,_,h,_=>h.elim
 | [],_::_,_,_,_,h,_=>h.elim
 |_::_,[],_,_,_,h,_=>h.elim
 |_::_,_::_,[],_,_,h,_=>h.elim
theorem Mf {f:FuncId} {a:Array V0} {L:V6 aZ} {W:V2} (h:a_ prog f a L (λ_:Unit=> .bool true) (λ_ l=>l) (λ_ l=>l)) (c:∀g∈L,g.p W (λ_=>True)):
  Calls prog f a W λe b=>e = .returned (.bool true)/\Ph W b:=
 (h W (λ_=>True) c).mono λ_ _ ⟨_,d,i⟩=>⟨d,i.old.ext⟩
variable {w:V2} {base:Nat} {spare:Nat->V4} {held:V4}
theorem Yb {A:Addr} {k:Nat} {a:V6 V0} (h:w.cells? base A k=some a):a.length=k/\∀(j:Nat) (u:V0),a[j]? = some u->w.cell? (A.add j)=some u:=by
 obtain⟨_,c,d⟩:=World.cells?_some h;refine⟨c,λj u b=>?_⟩
 have e:=bB b;rw[d j V7];exact b
theorem EF {B:Type} (r:eD B) {t e:V9} (ht:P.underlying t=some (.slice e)) (X:P.cellsOf e=r.sz)
  (F:∀(n:Nat) (N:V6 V0) (x:DataW H×V6 MemPlace),DataW.trod enc P w base spare held n e N=some x->∃y:B,r.R w (λ_=>True) N y)
  {U:Nat} {v:V0} {x:DataW H×V6 MemPlace} (h:DataW.trod enc P w base spare held U t [v]=some x):∃d:V6 B,Fc r w (λ_=>True) v d:=by
 rcases Deep.open_slice ht h with⟨L,_⟩|⟨a,f,o,m,n,D,Pl,L,hb,hl,hm,I,_,hx⟩
 .cases L;exact⟨[],none,0,rfl,V8,.inl Z⟩
 cases L;have Y:f<=m:=by rw[I];split<;>omega
 by_cases W:f=0
 .subst W;exact⟨[],some a,o,rfl,V8,.inl Z⟩
 -- the elements,chosen one by one
 have M:∀k,k<=f->∃d:V6 B,d.length=k/\∀i y,d[i]? = some y->∃g,(∀(j:Nat) (u:V0),g[j]? = some u->w.cell? ((a.add (i*P.cellsOf e)).add j)=some u)/\r.R w (λ_=>True) g y:=by
  intro k
  induction k with
  |zero=>exact λ_=>⟨[],rfl,λi y q=>by simp at q⟩
  | succ k ih =>
   intro hk;obtain⟨d,z,A⟩:=ih V7;obtain⟨p,C,K⟩:=hx k V7;obtain⟨y,q⟩:=F n p _ K;refine⟨d++[y],by simp[z],λi y' l=>?_⟩
   by_cases S:i<d.length
   .rw[zAc S]at l;exact A i y' l
   have G:i=k:=by
    have:=bB l;simp at this;omega
   subst G;rw[zAb V7,z,Nat.sub_self]at l;simp at l;subst l;exact⟨p,(Yb C).2,q⟩
 obtain⟨d,z,A⟩:=M f (zAg _);have c:a.spot=none:=by
  obtain⟨g,E,J⟩:=A 0 (d[0]'V7) (zA0 _);have O:=r.len J;have Q:=r.pos;have:=E 0 (g[0]'V7) (zA0 _);rw[Nat.zero_mul]at this;have T:(a.add 0).add 0=a:=rfl;rw[T]at this;unfold World.cell? at this;split at this
  .split at this
   .cases this
   rename_i V;simpa using V
  cases this
 obtain⟨b,s,sp⟩:=a;simp only at c;subst c;refine⟨d,some ⟨b,s,none⟩,o,by rw[z],?_,.inr ⟨b,s,rfl,trivial,λi y q=>?_⟩⟩
 .have:maxLen=9223372036854775807:=rfl;exact⟨V7,V7⟩
 obtain⟨g,E,J⟩:=A i y q;refine⟨g,λj u hu=>?_,J⟩
 have:=E j u hu;rw[eM,eM,X]at this;rwa[Nat.add_assoc]at this
theorem PT {k:IntKind} {e:V9} (b:P.underlying e=some (.int k)) (n:Nat) (a:V6 V0) (x:DataW H×V6 MemPlace) (h:DataW.trod enc P w base spare held n e a=some x):∃y:Int,(eD.int k).R w (λ_=>True) a y:=by
 obtain⟨y,c,_,_⟩:=DataW.trod_int b h;exact⟨y,c⟩
theorem Yc:prog.cellsOf 3=1:=by kernel_rfl
theorem IB {a:Nat} {v:V0} {d:DataW H} {p:V6 MemPlace} (e:Value.okWide prog w .any a 22 v) (h:DataW.Trod enc prog w base spare held 22 v d p):∃g:V6 Int,(Sl (eD.int .i64) v g).p w (λ_=>True):=by
 obtain⟨i,f,b,rfl⟩:=okWide_slice underlying22 e;obtain⟨U,c⟩:=h;exact EF (eD.int .i64) underlying22 Yc (PT underlying3) (by simpa [Value.cells]using c)
end
end Go.Sx
end
namespace Go.Sx
open Go.RowKit
def ck {a:Type} (p:Prop) [Decidable p] (x:V1 a):V1 a:=if p then x else none
theorem WG {b:Type} {p:Prop} [Decidable p] {x:V1 b} {r:b} (h:ck p x=some r):p/\x=some r:=by
 unfold ck at h;by_cases a:p
 .rw[if_pos a]at h;exact⟨a,h⟩
 .rw[if_neg a]at h;cases h
theorem SE {a:Type} {p:Prop} [Decidable p] {x y:V1 a} {r:a} (b:p) (h:(if p then x else y)=some r):x=some r:=by rwa[if_pos b]at h
theorem ifN {a:Type} {p:Prop} [Decidable p] {x y:V1 a} {r:a} (b:¬p) (h:(if p then x else y)=some r):y=some r:=by rwa[if_neg b]at h
theorem Qh {a:Type} {b:V4} {x y:V1 a} {r:a} (c:b=false) (h:(if b=true then x else y)=some r):y=some r:=by
 rwa[if_neg (by simp[c])]at h
theorem bnd {a b:Type} {x:V1 a} {f:a->V1 b} {r:b} (h:x.bind f=some r):∃y,x=some y/\f y=some r:=Option.bind_eq_some_iff.1 h
def bN {X R:Type} (step:X->(X->V1 R)->V1 R):Nat->X->V1 R
 |0,_=>none
 |k+1,x=>step x (bN step k)
def aG (M L:V6 aZ) (g:aZ):Prop:=∀(w:V2) (S:Nat->Prop) (T:Nat->Nat->Prop) (U:Nat->Prop),(∀f∈L,f.p w S)->(∀(i:Nat) (m:aZ),M[i]? = some m->m.p w (T i))->(∀k,S k->U k)->(∀i k,T i k->U k)->g.p w U
section
variable {M L:V6 aZ} {α β:Type} {e:bI α} {r:eD α} {v:V0}
theorem aZ.wide {f:aZ} {w:V2} {S U:Nat->Prop} (h:f.p w S) (a:∀k,S k->U k):f.p w U:=f.mono h λk b _=>⟨a k b,rfl⟩
theorem aG.fact {g:aZ} (j:Nat) (h:L[j]? = some g):aG M L g:=λ_ _ _ _ a _ b _=>aZ.wide (a g (zA3 h)) b
theorem aG.res {m:aZ} (i:Nat) (h:M[i]? = some m):aG M L m:=λ_ _ _ _ _ a _ b=>aZ.wide (a i m h) (b i)
theorem aG.mono {f g:aZ} (h:aG M L f) (a:∀{w U},f.p w U->g.p w U):aG M L g:=λw S T U b c d i=>a (h w S T U b c d i)
theorem bP {b:V6 α} (h:aG M L (Ar e v b)) (a:e.Fits r):aG M L (Sl r v b):=h.mono λh=>Bo.sl a h
theorem aG.nil:aG M L (Sl r (.slice none 0 0) []):=λ_ _ _ _ _ _ _ _=>⟨none,0,rfl,V8,.inl Z⟩
def Sn {β:Type} (r:eD α) (b:α->β) (v:V0) (a:V6 α) (c:V6 β):aZ where
 p w S:=Fc r w S v a/\a.map b=c
 mono:=λh e=>⟨h.1.mono e,h.2⟩
abbrev S2 (r:eD α) (v:V0) (b:V6 (V0×V6 α)) (a:V6 (V6 α)):aZ:=Sn (eD.sl r) (λz=>z.2) v b a
theorem aG.sl {b:α->β} {a:V6 α} {c:V6 β} (h:aG M L (Sn r b v a c)):aG M L (Sl r v a):=h.mono λh=>h.1
theorem Wh [Inhabited α] [Inhabited β] (f:α->β) {a:V6 α} {i:Int} (c:0<=i) (d:i<a.length):at' (a.map f) i=f (at' a i):=by
 have h:=cG c d;have b:=cG (xs:=a.map f) c (by simpa using d);rw[List.getElem?_map,h]at b;simpa using b.symm
theorem zBm {b:V6 (V0×V6 α)} {a:V6 (V6 α)} {i:Int} (h:aG M L (S2 r v b a)) (c:0<=i) (d:i<a.length):aG M L (Sl r (at' b i).1 (at' a i)):=h.mono λ{w U} h=>by
 obtain⟨h,f⟩:=h;have g:i<b.length:=by rw[<-f]at d;simpa using d
 obtain⟨k,j,_⟩:=sl_cell h (cG c g);rw[<-f,Wh _ c g];exact j.2
theorem cC {i j:Nat} {vs:V6 V0} {a:V6 (V6 α)} (l:M[i]? = some (Ar bI.raw v vs)) (m:M[j]? = some (fE e vs a)) (b:e.Fits r):aG M L (S2 r v (vs.zip a) a):=λw S T U o c p f=>by
 have g:=c i _ l;have d:=c j _ m;refine⟨(afz b g d).mono λk n _=>⟨?_,rfl⟩,?_⟩
 .rcases n with h|h
  .exact f i k h
  .exact f j k h
 .rw[List.map_snd_zip];obtain⟨q,_⟩:=d;omega
theorem aG.row {j:Nat} {vs:V6 V0} {a:V6 (V6 α)} {k:Int} (m:M[j]? = some (fE e vs a)) (b:e.Fits r) (c:0<=k) (h:k<a.length):aG M L (Sl r (at' vs k) (at' a k)):=λw S T U o i p l=>by
 have d:=i j _ m;have s:=d.1;obtain⟨_,G,f,g,_⟩:=d;exact(Bo.sl b (f k.toNat _ _ (cG c V7) (cG c h))).mono λq n _=>⟨l j q (g _ q n),rfl⟩
theorem aG.st {c:wJ} {w:V2} {g:aZ} (h:aG M L g) (t:St c M L w):∃S,g.p w S:=by
 obtain⟨_,F,a,b⟩:=t;exact⟨λ_=>True,h w (Dk c F) F (λ_=>True) b a.res (λ_ _=>trivial) (λ_ _ _=>trivial)⟩
end
section
variable {P:Program} {rd:V1 Nat} {c:wJ} {n:Sz} {σ:Fr} {M L:V6 aZ} {Q:Exit->Act->V2->Prop} {ops:Array V5} {rest:V6 V5}
variable {d:V1 Tmp} {D:Nat} {ty:V9} {pos:String} {aft:Array Edge} {g:V1 (Nat×V4)}
variable {α β:Type} {e:bI α} {r:eD α}
theorem iN [cO P] {T E:V9} {l m:Nat} {z:V0} {x:V3} {v:V0} {b:V6 α} (k:ev σ x=some v) (i:aG M L (Sl r v b))
  (h:cO.tab P T=some ⟨.slice E,l,m,z⟩):Y P c n σ M L ⟨d,.call ⟨.builtin .len,#[x],#[T]⟩,ty,pos,aft,g⟩ (.int .i64 b.length):=λa w s t=>by
 obtain⟨S,o,f,j,_,_⟩:=i.st t;subst j;simp[execOp,resolve,invoke,builtin,s.eval k,QE w (cO.ok h) Z]
theorem fN [cO P] {T E:V9} {l m:Nat} {z:V0} {x:V3} {v:V0} {i:α->β} {o:V6 α} {f:V6 β} (k:ev σ x=some v) (b:aG M L (Sn r i v o f))
  (j:cO.tab P T=some ⟨.slice E,l,m,z⟩):Y P c n σ M L ⟨d,.call ⟨.builtin .len,#[x],#[T]⟩,ty,pos,aft,g⟩ (.int .i64 f.length):=λa w s t=>by
 obtain⟨_,_,h⟩:=b.st t;rw[<-h,List.length_map];exact iN k b.sl j a w s t
theorem bR [cO P] {T E:V9} {G H l I:Nat} {z J:V0} {o:TypeDesc} {x y:V3} {v:V0} {i:Int} {m:V6 α} (C:ev σ x=some v) (F:ev σ y=some (.int .i64 i)) (A:aG M L (Sl r v m))
  (u:cO.tab P T=some ⟨.slice E,G,H,z⟩) (q:cO.tab P E=some ⟨o,l,I,J⟩) (h:0<=i/\i<m.length):
  Y P c n σ M L ⟨d,.indexAddr T x y,ty,pos,aft,g⟩ (Er v (i.toNat*l)):=λa w s t=>by
 obtain⟨p,k⟩:=h;obtain⟨S,K,f,B,_,h⟩:=A.st t;rcases h with h|⟨b,j,rfl,_,_⟩
 .subst h;simp at k;omega
 .subst B;simp[execOp,s.eval C,s.eval F,JP w (cO.ok u) Z (cO.ok q) b j _ f i p k]
theorem Sn.len {w:V2} {S:Nat->Prop} {v:V0} {b:α->β} {a:V6 α} {xs:V6 β} (h:(Sn r b v a xs).p w S):a.length=xs.length:=by rw[<-h.2];simp
theorem cA [cO P] {T E:V9} {A B f C:Nat} {z F:V0} {k:TypeDesc} {x y:V3} {v:V0} {i:Int} {l:α->β} {G:V6 α} {j:V6 β} (q:ev σ x=some v) (u:ev σ y=some (.int .i64 i)) (b:aG M L (Sn r l v G j))
  (p:cO.tab P T=some ⟨.slice E,A,B,z⟩) (o:cO.tab P E=some ⟨k,f,C,F⟩) (h:0<=i/\i<j.length):
  Y P c n σ M L ⟨d,.indexAddr T x y,ty,pos,aft,g⟩ (Er v (i.toNat*f)):=λa w s t=>by
 obtain⟨_,m⟩:=b.st t;exact bR q u b.sl p o (by rw[Sn.len m];exact h) a w s t
theorem qI [cO P] [Inhabited α] {T:V9} {F G q o:Nat} {z:V0} {k:TypeDesc} {x:V3} {v:V0} {i:Int} {j:V6 α} {f:α->V0} (E:ev σ x=some (Er v (i.toNat*q+o))) (A:aG M L (Sl r v j))
  (p:cO.tab P T=some ⟨k,F,G,z⟩) (y:yA k=false) (C:r.sz=q) (u:r.Cell o f) (h:0<=i/\i<j.length):
  Y P c n σ M L ⟨d,.load T x,ty,pos,aft,g⟩ (f (at' j i)):=λa w s t=>by
 obtain⟨l,m⟩:=h;obtain⟨S,h⟩:=A.st t;obtain⟨H,B,b⟩:=sl_cell h (cG l m);have:=b o _ (u B);rw[C]at this;simp[execOp,s.eval E,Er,AE (cO.ok p) y this]
theorem cK [cO P] [Inhabited α] {T:V9} {t u q:Nat} {z:V0} {b:TypeDesc} {x:V3} {v:V0} {i:Int} {a:V6 α} {f:α->V0} (s:ev σ x=some (Er v (i.toNat*q))) (m:aG M L (Sl r v a))
  (j:cO.tab P T=some ⟨b,t,u,z⟩) (l:yA b=false) (p:r.sz=q) (k:r.Cell 0 f) (h:0<=i/\i<a.length):
  Y P c n σ M L ⟨d,.load T x,ty,pos,aft,g⟩ (f (at' a i)):=qI (o:=0) s m j l p k h
theorem cW [cO P] {T:V9} {u y:Nat} {z:V0} {j:TypeDesc} {x:V3} {v:V0} {i:Int} {l:V6 (V0×V6 α)} {b:V6 (V6 α)} (q:ev σ x=some (Er v (i.toNat*1))) (k:aG M L (S2 r v l b))
  (o:cO.tab P T=some ⟨j,u,y,z⟩) (p:yA j=false) (h:0<=i/\i<b.length):
  Y P c n σ M L ⟨d,.load T x,ty,pos,aft,g⟩ (at' l i).1:=λa w s t=>by
 obtain⟨_,m⟩:=k.st t;exact cK (r:=eD.sl r) (f:=λz=>z.1) q k.sl o p Z (eD.sl_cell r) (by rw[Sn.len m];exact h) a w s t
theorem jT [cO P] (j:Nat) {T:V9} {o:Nat} {z:V0} {a:TypeDesc} {x:V3} {v:V0} {i:Int} {vs:V6 V0} {m:Nat} (l:ev σ x=some (Er v (i.toNat*1))) (k:M[j]? = some (Ar bI.raw v vs)) (p:vs.length=m)
  (b:cO.tab P T=some ⟨a,1,o,z⟩) (f:yA a=false) (h:0<=i/\i<m):
  Y P c n σ M L ⟨d,.load T x,ty,pos,aft,g⟩ (at' vs i):=ZN j l k b f Z Z h.1 V7
theorem gT [cO P] [Inhabited α] {T:V9} {K q:Nat} {z:V0} {o:TypeDesc} {x:V3} {v:V0} {i:Int} {k:V6 α} {cs:V6 V0} (J:ev σ x=some (Er v (i.toNat*q))) (F:aG M L (Sl r v k)) (f:e.Fits r) (l:e.enc (at' k i)=cs)
  (B:cO.tab P T=some ⟨o,cs.length,K,z⟩) (C:yA o=true) (G:e.sz=q) (h:0<=i/\i<k.length):Y P c n σ M L ⟨d,.load T x,ty,pos,aft,g⟩ (.agg cs.toArray):=λa w s t=>by
 obtain⟨p,y⟩:=h;obtain⟨S,h⟩:=F.st t;obtain⟨N,H,b⟩:=sl_cell h (cG p y);obtain⟨m,E,_,_⟩:=f;have:=E H;subst this l;rw[m,G]at b;have:=Bi (w:=w) (A:=KH v (i.toNat*q)) (cs:=e.enc (at' k i)) (cO.ok B) C Z (λj u I=>by rw[Lg];exact b j u I);simp[execOp,s.eval J,Er,this]
def aF (M L a:V6 aZ):Prop:=∀f∈a,aG M L f
theorem aF.nil:aF M L []:=λ_ h=>by simp at h
theorem aF.cons {f:aZ} {b:V6 aZ} (h:aG M L f) (k:aF M L b):aF M L (f::b):=λx a=>by
 rcases zAo.1 a with rfl|a
 .exact h
 .exact k x a
theorem RN {w i:V2} {b:V6 aZ} {F:Nat->Nat->Prop} {U:Nat->Prop} (o:DI c.O c.w0 w) (k:Own c w M F) (l:∀f∈L,f.p w (Dk c F))
  (t:St ⟨w,U,λ_=>False⟩ b [] i):St c (b++M) L i:=by
 obtain⟨h,j,a,_⟩:=t;have q:St ⟨w,Dk c F,λ_=>False⟩ b [] i:=⟨h,j,⟨a.res,a.rng,a.dis⟩,λf m=>by simp at m⟩
 exact St.call o k l q
theorem Ur {A:Type} {j:A->V0} {k:A->V6 aZ->V6 aZ} {f:FuncId} {p:V6 V3} {o:V6 V0} {b:Array V9} {q:V6 aZ} (y:aU P f)
  (C:a_ P f o.toArray q j k (λ_ l=>l)) (G:p.map (ev σ)=o.map some) (v:aF M L q) (m:∀x l,k x l=k x []++l):
  aN P c n σ M L ⟨d,.call ⟨.value (.func f),p.toArray,b⟩,ty,pos,aft,g⟩ j (λx=>k x M) (λ_=>L):=λa w s t=>by
 have i:(execOp a.eval ⟨d,.call ⟨.value (.func f),p.toArray,b⟩,ty,pos,aft,g⟩).run P w = .ok (.enter f o.toArray) w:=by
  have e:=evs s G;simp[execOp,resolve,Act.eval,Deferred.ofValue,invoke,y _ w,e]
 simp only[Oper.wp,i,Oper.upon];obtain⟨B,F,u,h⟩:=t;refine(C w (λ_=>True) (λf z=>v f z w (Dk c F) F _ h u.res (λ_ _=>trivial) (λ_ _ _=>trivial))).mono ?_;rintro e H ⟨x,rfl,E⟩;refine⟨x,rfl,?_⟩
 rw[m];exact RN B u h E
theorem nN {A:Type} {j:A->V0} {k:A->V6 aZ->V6 aZ} {f:FuncId} {t:Tmp} {p:V6 V3} {vs cs:V6 V0} {b:Array V9} {q:V6 aZ} (z:aU P f)
  (o:lk σ t=some (.func (.func f) #[] cs.toArray)) (E:a_ P f (vs++cs).toArray q j k (λ_ l=>l)) (G:p.map (ev σ)=vs.map some) (y:aF M L q) (m:∀x l,k x l=k x []++l):
  aN P c n σ M L ⟨d,.call ⟨.value (.tmp t),p.toArray,b⟩,ty,pos,aft,g⟩ j (λx=>k x M) (λ_=>L):=λa w s H=>by
 have i:(execOp a.eval ⟨d,.call ⟨.value (.tmp t),p.toArray,b⟩,ty,pos,aft,g⟩).run P w = .ok (.enter f (vs++cs).toArray) w:=by
  have e:=evs s G;have v:a.eval (.tmp t) = .func (.func f) #[] cs.toArray:=s.eval (x:= .tmp t) o;simp[execOp,resolve,v,Deferred.ofValue,invoke,z _ w,e]
 simp only[Oper.wp,i,Oper.upon];obtain⟨C,F,u,h⟩:=H;refine(E w (λ_=>True) (λf B=>y f B w (Dk c F) F _ h u.res (λ_ _=>trivial) (λ_ _ _=>trivial))).mono ?_;rintro e I ⟨x,rfl,o⟩;refine⟨x,rfl,?_⟩
 rw[m];exact RN C u h o
theorem fU [cO P] (i:Nat) {r:eD α} (b:e.Fits r) {x y:V3} {v u:V0} {h j:V6 α} {T E:V9} {W X m k:Nat} {z p:V0} {q:TypeDesc} (S:ev σ x=some v) (U:ev σ y=some u) (J:M[i]? = some (Ar e v h)) (K:aG M L (Sl r u j))
  (o:cO.tab P T=some ⟨.slice E,W,X,z⟩) (G:cO.tab P E=some ⟨q,m,k,p⟩) (B:e.sz=m) (C:Nat.ble k 1024=true) (Y:(h.length:Int)+j.length<=1099511627) (V:p.cells.size=m):
  aN P c n σ M L ⟨d,.call ⟨.builtin .append,#[x,y],#[T,T]⟩,ty,pos,aft,g⟩ (λf:V0=>f) (λf=>M.set i (Ar e f (h++j))) (λ_=>L):=λa w s t=>by
 subst B;obtain⟨F,H⟩:=K.st t;obtain⟨O,A⟩:=RI b H o;have l:k<=1024:=by simpa using C
 have I:(h.length+j.length)*k<=140737488355328:=zB4 (Nat.mul_le_mul (show h.length+j.length<=1099511627 by omega) l) Q2;obtain⟨f,w',N,R⟩:=t.append (ty:=ty) J O A o G I V7 V;simp only[Oper.wp,zZ s S U w,N,Result.andThen_ok,Oper.upon];exact⟨f,rfl,R⟩
theorem St.appendRow [cO P] {w:V2} (t:St c M L w) {i:Nat} {u:V0} {k:Int} {C:V6 V0} {b:V6 (V6 α)} {p:V6 α} {T E ty:V9} {s1 s2 s4:Nat} {z z':V0} {dE:TypeDesc} (hf:M[i]? = some (fE e C b)) (A:Src P e.sz T u p.length (cellsOf e p) w) (x:(cellsOf e p).all one=true)
  (hT:cO.tab P T=some ⟨.slice E,s1,s2,z⟩) (hE:cO.tab P E=some ⟨dE,e.sz,s4,z'⟩) (Y:0<=k) (h1:k<C.length) (hb:((at' b k).length+p.length)*s4<=140737488355328) (hl:(at' b k).length+p.length<=140737488355328) (hz:z'.cells.size=e.sz):
  ∃B N,(Builtin.append_ #[T,T] ty #[at' C k,u]).run P w = .ok B N/\St c (M.set i (fE e (C.set k.toNat B) (b.set k.toNat (at' b k++p)))) L N:=by
 have t0:=t;obtain⟨ho,FF,hO,U⟩:=t0;have hR:=hO.res i _ hf;obtain⟨s,G,X,S,I⟩:=hR;have V:k.toNat<C.length:=V7
 have y:=X k.toNat _ _ (cG Y h1) (cG Y V7);obtain⟨B,N,F',hr,hA,l⟩:=Bo.append (ty:=ty) y A x hT hE hb hl hz;refine⟨B,N,hr,?_⟩
 refine Gp ho hO U hf l.os l.tape l.out l.size (λq a hn=>l.same q a (λh=>hn (S _ q h))) (F':=λq=>(F' q)\/∃j,j≠k.toNat/\G j q) ?_ ?_
 .refine⟨by simp[s],λj q=>(j=k.toNat/\F' q)\/(j≠k.toNat/\G j q/\q<w.heap.size),?_,?_,?_⟩
  .intro j v2 F m o;by_cases H:j=k.toNat
   .subst H;rw[zAj V]at m;rw[zAj V7]at o;cases m;cases o;exact aZ.same (f:=Ar e B (at' b k++p)) hA (λq a=> .inl ⟨rfl,a⟩) (λ_ _ _=>rfl)
   .rw[zAq (Ne.symm H)]at m o;exact(Ar e v2 F).mono (X j v2 F m o) (λq a v=>⟨.inr ⟨H,a,v⟩,l.same q v (λh=>H (I _ _ q a h))⟩)
  .rintro j q (⟨_,a⟩|⟨W,a,_⟩)
   .exact .inl a
   .exact .inr ⟨j,W,a⟩
  .rintro j1 j2 q (⟨O,J⟩|⟨O,J,l1⟩) (⟨R,K⟩|⟨R,K,l2⟩)
   .rw[O,R]
   .rcases l.sub q J with h|⟨h,_⟩
    .exact absurd (I _ _ q K h) R
    .omega
   .rcases l.sub q K with h|⟨h,_⟩
    .exact absurd (I _ _ q J h) O
    .omega
   .exact I _ _ q J K
 .rintro q (a|⟨j,_,a⟩)
  .rcases l.sub q a with h|h
   .exact .inl (S _ q h)
   .exact .inr h
  .exact .inl (S _ q a)
theorem pA [cO P] (i:Nat) {r:eD α} (b:e.Fits r) {x y:V3} {u:V0} {k:Int} {vs:V6 V0} {xss:V6 (V6 α)} {ys:V6 α} {T E:V9} {X Y m j:Nat} {z v:V0} {A:TypeDesc} (U:ev σ x=some (at' vs k)) (V:ev σ y=some u) (p:M[i]? = some (fE e vs xss)) (N:aG M L (Sl r u ys))
  (o:cO.tab P T=some ⟨.slice E,X,Y,z⟩) (I:cO.tab P E=some ⟨A,m,j,v⟩) (G:e.sz=m) (H:Nat.ble j 1024=true) (B:0<=k/\k<xss.length) (hl:((at' xss k).length:Int)+ys.length<=1099511627) (W:v.cells.size=m):
  aN P c n σ M L ⟨d,.call ⟨.builtin .append,#[x,y],#[T,T]⟩,ty,pos,aft,g⟩ (λf:V0=>f) (λf=>M.set i (fE e (vs.set k.toNat f) (xss.set k.toNat (at' xss k++ys)))) (λ_=>L):=λa w s t=>by
 subst G;obtain⟨F,J⟩:=N.st t;obtain⟨R,C⟩:=RI b J o;have l:j<=1024:=by simpa using H
 have K:((at' xss k).length+ys.length)*j<=140737488355328:=zB4 (Nat.mul_le_mul (show(at' xss k).length+ys.length<=1099511627 by omega) l) Q2;have q:vs.length=xss.length:=by obtain⟨_,h⟩:=t.res p;exact h.1
 obtain⟨f,w',O,S⟩:=t.appendRow (ty:=ty) p R C o I B.1 V7 K V7 W;simp only[Oper.wp,zZ s U V w,O,Result.andThen_ok,Oper.upon];exact⟨f,rfl,S⟩
end
section
variable {P:Program} {rd:V1 Nat} {c:wJ} {n:Sz} {σ:Fr} {M L M' L':V6 aZ} {Q:Exit->Act->V2->Prop} {ops:Array V5} {rest:V6 V5} {K:Act->V2->Prop}
variable {d:V1 Tmp} {D:Nat} {ty:V9} {pos:String} {aft:Array Edge} {g:V1 (Nat×V4)}
variable {α β:Type} {e:bI α} {r:eD α}
theorem St.weakE {w:V2} (h:St c M L w) (j:aX M M') (i:aF [] L L'):St c M' L' w:=by
 obtain⟨l,F,b,k⟩:=h.weak (L':=L) j (λ_ h=>h);exact⟨l,F,b,λf a=>i f a w (Dk c F) (λ_ _=>False) (Dk c F) k (λ_ _ h=>by simp at h) (λ_ h=>h) (λ_ _ h=>h.elim)⟩
theorem aF.refl (M L:V6 aZ):aF M L L:=λf a=>by
 obtain⟨j,b⟩:=List.getElem?_of_mem a;exact aG.fact j b
def ZC {A B:Type} (c:wJ) (n:Sz) (C:A->Prop) (b:A->B->Fr) (h f:A->B->V6 aZ) (a:Act) (w:V2):Prop:=∃x y,C x/\Hv n (b x y) a/\St c (h x y) (f x y) w
theorem lT {A B:Type} {x:Code} (C:A->Prop) (f:A->B->Fr) (i h:A->B->V6 aZ) (k:J c n σ M L (x.wpr rd P (Exit.then (ZC c n C f i h) Q))) (m:∀a b,C a->J c n (f a b) (i a b) (h a b) K):
  J c n σ M L (x.wpr rd P (Exit.then K Q)):=λa w s t=>Jc (λe j v q=>by
 cases e with
 |normal=>obtain⟨z,y,o,p,u⟩:=q;exact m z y o j v p u
 |exit id=>exact q
 |goto l=>exact q
 |ret=>exact q
 |panic E=>exact q
 |outgrown=>exact q) (k a w s t)
theorem cT {A B:Type} {C:A->Prop} {a:A->B->Fr} {f b:A->B->V6 aZ} (x:A) (y:B) (h:C x) (k:Ba σ (a x y)) (j:aX M (f x y)) (i:aF [] L (b x y)):J c n σ M L (ZC c n C a f b):=
 λ_ _ s t=>⟨x,y,h,s.weak k,t.weakE j i⟩
def ads {A B R:Type} (c:wJ) (n:Sz) (b:A->(A->V1 R)->V1 R) (r:R) (f:A->B->Fr) (i h:A->B->V6 aZ) (k:Nat) (a:Act) (w:V2):Prop:=
 ∃x y,bN b k x=some r/\Hv n (f x y) a/\St c (i x y) (h x y) w
theorem pN {A B R:Type} {j:Code} (f:A->(A->V1 R)->V1 R) {r:R} {m:Nat} (i:A->B->Fr) (v u:A->B->V6 aZ) (p:A) (z:B) (h:bN f m p=some r)
  (N:Ba σ (i p z)) (I:aX M (v p z)) (H:aF [] L (u p z))
  (o:∀k a b,f a (bN f k)=some r->J c n (i a b) (v a b) (u a b) (j.wpr rd P (Exit.then (ads c n f r i v u k) Q))):J c n σ M L ((Code.loop j).wpr rd P Q):=by
 intro a w s t;refine Zt (X:=Nat×A×B) (λx=>bN f x.1 x.2.1=some r) (λx=>i x.2.1 x.2.2) (λx=>v x.2.1 x.2.2) (λx=>u x.2.1 x.2.2) (λx=>x.1) (m,p,z) h (Ba.refl _) (aX.refl _) (λ_ h=>h) ?_ a w (s.weak N) (t.weakE I H);rintro⟨k,x,y⟩ G;cases k with
 |zero=>cases G
 |succ k=>
  refine Zu (o k x y G) λa w h=>Jc (λe T V q=> ?_) h;cases e with
  |normal=>obtain⟨O,S,C,E,F⟩:=q;exact⟨(k,O,S),C,Nat.lt_succ_self k,E,F⟩
  |exit id=>exact q
  |goto l=>exact q
  |ret=>exact q
  |panic U=>exact q
  |outgrown=>exact q
theorem iH {A B R:Type} {a:A->(A->V1 R)->V1 R} {r:R} {k:Nat} {b:A->B->Fr} {i f:A->B->V6 aZ} (x:A) (y:B) (h:bN a k x=some r) (m:Ba σ (b x y)) (l:aX M (i x y)) (j:aF [] L (f x y)):
  J c n σ M L (ads c n a r b i f k):=λ_ _ s t=>⟨x,y,h,s.weak m,t.weakE l j⟩
variable {l:V6 V5} {m:V6 Nat} {k0:Nat} {H Bs:V6 (Nat×V6 aZ×V6 aZ)} {rs:V6 Nat}
theorem bK {i f:Nat} {j:Op} {v:V0} {b a:V6 aZ} (s:l[i]? = some ⟨some f,j,ty,pos,aft,none⟩) (p:aX M b) (o:mD L a)
  (w:Y P c n σ b a ⟨some f,j,ty,pos,aft,none⟩ v) (k:aO (before m i) b a H)
  (h:JR c n ((f,v)::σ) M L H ((i,b,a)::Bs) (RW P l.toArray Q (before m) (eG l) k0 rs))
  (t:Nat.blt i k0=true:=by exact rfl) (u:fI j=false:=by exact rfl) (q:Nat.blt f n.sz=true:=by exact rfl):JR c n σ M L H Bs (RW P l.toArray Q (before m) (eG l) k0 (i::rs)):=
 JR.quiet b a s t u w ⟨p,o⟩ k q h
theorem gX {i k:Nat} {o:Op} {v:V0} {j:Nat} {b:V4} {f a:V6 aZ} (w:l[i]? = some ⟨some k,o,ty,pos,aft,some (j,b)⟩) (s:aX M f) (q:mD L a)
  (z:Y P c n σ f a ⟨some k,o,ty,pos,aft,some (j,b)⟩ v) (p:aO (before m i) f a H)
  (h:JR c n ((k,v)::σ) M L H ((i,f,a)::Bs) (RW P l.toArray Q (before m) (eG l) k0 rs))
  (x:Nat.blt i k0=true:=by exact rfl) (y:fI o=false:=by exact rfl) (u:gv l.toArray σ j=some b:=by exact rfl) (t:Nat.blt k n.sz=true:=by exact rfl):JR c n σ M L H Bs (RW P l.toArray Q (before m) (eG l) k0 (i::rs)):=
 XN f a w x y u z ⟨s,q⟩ p t h
def Hi (b:Array V0):ResultVar->Sem V0
 | .tmp t=>pure (b.getD t undef)
 | .cell a t=>do loadVar t (<-asAddr (b.getD a undef))
theorem Cs (b:Func) (a:Array V0):results b a=(do let vs <-b.results.mapM (Hi a);pure (if h:vs.size=1 then vs[0]else .tuple vs)):=rfl
def RV (P:Program) (c:wJ) (n:Sz) (σ:Fr) (M L:V6 aZ) (b:ResultVar) (v:V0):Prop:=∀a w,Hv n σ a->St c M L w->(Hi a.tmps b).run P w = .ok v w
theorem RV.tmp {t:Tmp} {v:V0} (h:lk σ t=some v):RV P c n σ M L (.tmp t) v:=λa w s _=>by simp[Hi,s.slot t v h]
theorem RV.cell [cO P] (i:Nat) {q:Tmp} {T h:V9} {v:Nat} {z:V0} {f:TypeDesc} {b:Nat} {cs:V6 V0} (u:lk σ q=some (.pointer (some ⟨b,0,none⟩))) (j:M[i]? = some (bH b cs h)) (o:cO.tab P T=some ⟨f,cs.length,v,z⟩) (p:yA f=true):
  RV P c n σ M L (.cell q T) (.agg cs.toArray):=λa w s t=>by
 obtain⟨F,k⟩:=t.res j;simp[Hi,s.slot q _ u,asAddr,acm k o p]
theorem RG [cO P] (i:Nat) {q:Tmp} {T h:V9} {y A:Nat} {z v:V0} {f:TypeDesc} {b:Nat} (x:lk σ q=some (.pointer (some ⟨b,0,none⟩))) (j:M[i]? = some (bH b [v] h)) (p:cO.tab P T=some ⟨f,y,A,z⟩) (u:yA f=false):
  RV P c n σ M L (.cell q T) v:=λa w s t=>by
 obtain⟨F,k⟩:=t.res j;have:=bH.cell k (o:=0) (v:=v) Z;simp[Hi,s.slot q _ x,asAddr,loadVar,(cO.ok p).run_agg w,u,load,Sem.run,this]
variable {A:Type} {ret:A->V0} {MO LO:A->V6 aZ->V6 aZ} {fn:Func}
theorem HZ (x:A) (p:ret x = .tuple #[]) (b:fn.results = #[]) (f:Exit) (o:f = .ret\/f = .normal) (k:aX M (MO x [])) (j:aF [] L (LO x [])) (i:n.ds=[]:=by rfl):J c n σ M L (iX P fn (RD c ret MO LO) f):=λa w s t=>
 agG x f o (λa w s t=>by simp[results,b,p]) k (λ_ h=>h) i a w s (t.weakE (aX.refl _) j)
theorem fD (x:A) {h:ResultVar} {i:V0} (q:ret x=i) (b:fn.results = #[h]) (j:RV P c n σ M L h i) (o:aX M (MO x [])) (k:aF [] L (LO x [])) (f:n.ds=[]:=by rfl):J c n σ M L (iX P fn (RD c ret MO LO) .ret):=λa w s t=>by
 have p:(results fn a.tmps).run P w = .ok (ret x) w:=by
  have:=j a w s t;simp only[Cs,b];simp[q,this]
 exact body_end (.inl Z) (s.defers.trans f) p ⟨x,rfl,t.weakE o k⟩
theorem kU (x:A) {j k:ResultVar} {o p:V0} (y:ret x = .tuple #[o,p]) (b:fn.results = #[j,k]) (f:RV P c n σ M L j o) (h:RV P c n σ M L k p) (u:aX M (MO x [])) (q:aF [] L (LO x [])) (i:n.ds=[]:=by rfl):J c n σ M L (iX P fn (RD c ret MO LO) .ret):=λa w s t=>by
 have v:(results fn a.tmps).run P w = .ok (ret x) w:=by
  have f:=f a w s t;have h:=h a w s t;simp only[Cs,b];simp[y,f,h]
 exact body_end (.inl Z) (s.defers.trans i) v ⟨x,rfl,t.weakE u q⟩
def wI:IntKind->Int->Int
 | .i64,x=>if -9223372036854775808<=x/\x<=9223372036854775807 then x else IntKind.i64.wrap x
 | .u32,x=>if 0<=x/\x<=4294967295 then x else IntKind.u32.wrap x
 |k,x=>k.wrap x
theorem EX (k:IntKind) (x:Int):wI k x=k.wrap x:=by
 unfold wI;split
 .split
  .rename_i h;exact(Pb h.1 h.2).symm
  .rfl
 .split
  .rename_i h;unfold IntKind.wrap;simp only[IntKind.bits,IntKind.signed];simp;omega
  .rfl
 .rfl
theorem Br {t h:V9} {x y:V3} {k:IntKind} {p q:Int} (b:ev σ x=some (.int k p)) (f:ev σ y=some (.int k q)):
  Y P c n σ M L ⟨d,.binOp .add t x y h,ty,pos,aft,g⟩ (.int k (wI k (p+q))):=λa w s _=>by
 simp[EX,execOp,s.eval b,s.eval f,binOp,Op.intArith,kO]
theorem vZ {t h:V9} {x y:V3} {k:IntKind} {p q:Int} (b:ev σ x=some (.int k p)) (f:ev σ y=some (.int k q)):
  Y P c n σ M L ⟨d,.binOp .sub t x y h,ty,pos,aft,g⟩ (.int k (wI k (p - q))):=λa w s _=>by
 simp[EX,execOp,s.eval b,s.eval f,binOp,Op.intArith,kO]
theorem En {t h:V9} {x y:V3} {k:IntKind} {p q:Int} (b:ev σ x=some (.int k p)) (f:ev σ y=some (.int k q)):
  Y P c n σ M L ⟨d,.binOp .mul t x y h,ty,pos,aft,g⟩ (.int k (wI k (p*q))):=λa w s _=>by
 simp[EX,execOp,s.eval b,s.eval f,binOp,Op.intArith,kO]
theorem ZQ {t i:V9} {x y:V3} {k:IntKind} {p q:Int} (b:ev σ x=some (.int k p)) (f:ev σ y=some (.int k q)) (h:q≠0):
  Y P c n σ M L ⟨d,.binOp .quo t x y i,ty,pos,aft,g⟩ (.int k (wI k (p.tdiv q))):=λa w s _=>by
 simp[EX,execOp,s.eval b,s.eval f,binOp,Op.intDiv,kO,h]
def fF (k:IntKind) (x y:Int):Int:=k.wrap (BitVec.ofInt k.bits x &&& BitVec.ofInt k.bits y).toNat
def Nz (k:IntKind) (x y:Int):Int:=k.wrap (BitVec.ofInt k.bits x ||| BitVec.ofInt k.bits y).toNat
def xH (k:IntKind) (x y:Int):Int:=k.wrap (BitVec.ofInt k.bits x &&& ~~~BitVec.ofInt k.bits y).toNat
def Dq (k:IntKind) (x y:Int):Int:=k.wrap (x*2^(min y.toNat k.bits))
def rW (k:IntKind) (x y:Int):Int:=x.fdiv (2^(min y.toNat k.bits))
theorem VX {t h:V9} {x y:V3} {k:IntKind} {p q:Int} (b:ev σ x=some (.int k p)) (f:ev σ y=some (.int k q)):
  Y P c n σ M L ⟨d,.binOp .and t x y h,ty,pos,aft,g⟩ (.int k (fF k p q)):=λa w s _=>by
 simp[execOp,s.eval b,s.eval f,binOp,Op.intBits,kO,fF]
theorem ZP {t h:V9} {x y:V3} {k:IntKind} {p q:Int} (b:ev σ x=some (.int k p)) (f:ev σ y=some (.int k q)):
  Y P c n σ M L ⟨d,.binOp .or t x y h,ty,pos,aft,g⟩ (.int k (Nz k p q)):=λa w s _=>by
 simp[execOp,s.eval b,s.eval f,binOp,Op.intBits,kO,Nz]
theorem LQ {t h:V9} {x y:V3} {k:IntKind} {p q:Int} (b:ev σ x=some (.int k p)) (f:ev σ y=some (.int k q)):
  Y P c n σ M L ⟨d,.binOp .andNot t x y h,ty,pos,aft,g⟩ (.int k (xH k p q)):=λa w s _=>by
 simp[execOp,s.eval b,s.eval f,binOp,Op.intBits,kO,xH]
theorem NZ {t j:V9} {x y:V3} {k i:IntKind} {p q:Int} (b:ev σ x=some (.int k p)) (f:ev σ y=some (.int i q)) (h:0<=q):
  Y P c n σ M L ⟨d,.binOp .shl t x y j,ty,pos,aft,g⟩ (.int k (Dq k p q)):=λa w s _=>by
 have:¬q<0:=V7
 simp[execOp,s.eval b,s.eval f,binOp,Op.shift,kO,Dq,this]
theorem N_ {t j:V9} {x y:V3} {k i:IntKind} {p q:Int} (b:ev σ x=some (.int k p)) (f:ev σ y=some (.int i q)) (h:0<=q):
  Y P c n σ M L ⟨d,.binOp .shr t x y j,ty,pos,aft,g⟩ (.int k (rW k p q)):=λa w s _=>by
 have:¬q<0:=V7
 simp[execOp,s.eval b,s.eval f,binOp,Op.shift,kO,rW,this]
theorem Uy [cO P] {t h:V9} {x:V3} {k f:IntKind} {p:Int} {o q u v:Nat} {z y:V0} (j:ev σ x=some (.int k p)) (i:cO.tab P t=some ⟨.int k,o,q,z⟩) (b:cO.tab P h=some ⟨.int f,u,v,y⟩):
  Y P c n σ M L ⟨d,.convert t h x,ty,pos,aft,g⟩ (.int f (wI f p)):=λa w s _=>by
 simp[EX,execOp,s.eval j,convert,(cO.ok i).run_und w,(cO.ok b).run_und w,Conv.intToInt]
theorem VZ {t:V9} {x:V3} {k:IntKind} {p:Int} (b:ev σ x=some (.int k p)):Y P c n σ M L ⟨d,.unOp .neg t x,ty,pos,aft,g⟩ (.int k (wI k (0 - p))):=λa w s _=>by
 simp[EX,execOp,s.eval b,Op.unary,Op.intArith]
theorem afE [cO P] {t:V9} {f h:Nat} {z:V0} (b:cO.tab P t=some ⟨.bool,f,h,z⟩) (p q:V4) (w:V2):(Op.equal t (.bool p) (.bool q)).run P w = .ok (p==q) w:=by
 have a:∀m:Nat,(Op.equalIn (m+1) t (.bool p) (.bool q)).run P w = .ok (p==q) w:=λm=>by simp[Op.equalIn,(cO.ok b).run_und w]
 exact a 9999
theorem agQ [cO P] {t k:V9} {x y:V3} {p q:V4} {i j:Nat} {z:V0} (f:ev σ x=some (.bool p)) (h:ev σ y=some (.bool q)) (b:cO.tab P t=some ⟨.bool,i,j,z⟩):
  Y P c n σ M L ⟨d,.binOp .neq t x y k,ty,pos,aft,g⟩ (.bool (p != q)):=λa w s _=>by
 simp[execOp,s.eval f,s.eval h,binOp,eqGuard,afE b,bne]
end
def bI.pair {c d:Type} (a:bI c) (b:bI d):bI (c×d):=⟨a.sz+b.sz,zAv a.pos (Nat.le_add_right _ _),λx=>a.enc x.1++b.enc x.2,λx=>by simp[a.len,b.len]⟩
theorem mB {c d:Type} {a:bI c} {b:bI d} {r:eD c} {s:eD d} (h:a.Fits r) (k:b.Fits s):(a.pair b).Fits (r.pair s):=by
 obtain⟨e,f,g,i⟩:=h;obtain⟨j,l,m,n⟩:=k;refine⟨by simp[bI.pair,eD.pair,e,j],?_,?_,?_⟩
 .rintro w S u x ⟨q,t,rfl,o,p⟩;rw[f o,l p];rfl
 .intro w S x;exact⟨_,_,rfl,g,m⟩
 .intro x;simp only[bI.pair,List.all_append,i,n,Bool.and_self]
section
variable {P:Program} {rd:V1 Nat} {c:wJ} {n:Sz} {σ:Fr} {M L M' L':V6 aZ} {Q:Exit->Act->V2->Prop} {ops:Array V5} {rest:V6 V5} {K:Act->V2->Prop}
variable {d:V1 Tmp} {D:Nat} {ty:V9} {pos:String} {aft:Array Edge} {g:V1 (Nat×V4)}
variable {α β:Type} {e:bI α} {r:eD α}
theorem Rz {A:Type} {o:V5} {f:A->V0} {i:V6 α} (h:aN P c n σ M L o f (λb=>Ar e (f b) i::M) (λ_=>L)):aN P c n σ M L o (λv:V0=>v) (λv=>Ar e v i::M) (λ_=>L):=λa w s t=>
 pW (λ_ _ ⟨x,j,k⟩=>⟨f x,j,k⟩) (h a w s t)
theorem Ko (e:bI α) (k:Nat) (x:α):(cellsOf e (List.replicate k x))=(List.replicate k (e.enc x)).flatten:=by
 induction k with
 |zero=>rfl
 |succ k a=>simp only[List.replicate_succ,cellsOf,List.flatMap_cons,List.flatten_cons]at *;rw[a]
theorem aby (a:V6 V0) (l:a≠[]) (k:Nat):(madeCells a.toArray (k*a.length)).toList=(List.replicate k a).flatten:=by
 have b:0<a.length:=List.length_pos_iff.2 l;apply List.ext_getElem
 .simp[madeCells]
 .intro i m p;have q:i<k*a.length:=by simpa [madeCells]using m
  have o:i%a.length<a.length:=Nat.mod_lt _ b;have j:∀(k i:Nat) (h:i<((List.replicate k a).flatten).length),((List.replicate k a).flatten)[i]=a[i%a.length]'(Nat.mod_lt _ b):=by
   intro k
   induction k with
   |zero=>intro i h;simp at h
   | succ k ih =>
    intro i h;simp only[List.replicate_succ,List.flatten_cons];by_cases f:i<a.length
    .rw[List.getElem_append_left f];simp[Nat.mod_eq_of_lt f]
    .rw[List.getElem_append_right V7];rw[ih];congr 1;rw[<-Nat.mod_eq_sub_mod V7]
  rw[j];simp[madeCells,o]
theorem tZ [cO P] {T E:V9} {G H j f:Nat} {z m:V0} {o:TypeDesc} {x:V3} {k:Int} (a:α)
  (y:cO.tab P T=some ⟨.slice E,G,H,z⟩) (w:cO.tab P E=some ⟨o,j,f,m⟩) (C:ev σ x=some (.int .i64 k)) (s:Nat.ble f 1024=true) (h:0<=k/\k<=1099511627) (q:e.sz=j)
  (F:m.cells=(e.enc a).toArray) (p:(e.enc a).all one=true):
  aN P c n σ M L ⟨d,.makeSlice T x x,ty,pos,aft,g⟩ (λv:V0=>v) (λv=>Ar e v (List.replicate k.toNat a)::M) (λ_=>L):=by
 have t:f<=1024:=by simpa using s
 subst q;have i:e.enc a≠[]:=by
  intro h;have:=e.len a;rw[h]at this;have:=e.pos;simp at *;omega
 refine Rz (aN.makeSlice (List.replicate k.toNat a) y w C h.1 ?_ V7 V8 ?_ ?_)
 .have:=Int.mul_le_mul (show(f:Int)<=1024 by omega) h.2 h.1 Q2;omega
 .rw[F,Ko,<-e.len a];exact aby _ i _
 .rw[Ko,zA7];intro u B;obtain⟨l,A,b⟩:=List.mem_flatten.1 B;rw[(List.mem_replicate.1 A).2]at b;exact zA7.1 p u b
theorem b_ [cO P] {T E:V9} {k x y h A:Nat} {z B:V0} {l:TypeDesc} {j:V6 (Nat×V3)} (f:V6 α) (vs:V6 (Nat×V0))
  (w:j.map (λp=>(p.1,ev σ p.2))=vs.map (λp=>(p.1,some p.2))) (q:cO.tab P T=some ⟨.slice E,x,y,z⟩) (o:cO.tab P E=some ⟨l,h,A,B⟩) (u:Nat.ble (k*h) 16777216=true)
  (b:∀a:Array V0,a.size=k*h->Instr.fill (λi=>some (i*h,h)) a vs=some (cellsOf e f).toArray)
  (s:f.length=k) (t:Nat.ble f.length 140737488355328=true) (m:(cellsOf e f).all one=true):
  aN P c n σ M L ⟨d,.buildSlice T k j.toArray,ty,pos,aft,g⟩ (λv:V0=>v) (λv=>Ar e v f::M) (λ_=>L):=
 Rz (aN.buildSlice f q o u w b s t m)
theorem Fg [cO P] (j:Nat) {T:V9} {w:Nat} {z:V0} {k:TypeDesc} {x y:V3} {v u:V0} {i:Int} {b:V6 α} (f:α) (h:0<=i/\i<b.length) (s:ev σ x=some (Er v (i.toNat*1))) (t:ev σ y=some u)
  (m:M[j]? = some (Ar e v b)) (q:e.enc f=[u]) (a:one u=true) (l:cO.tab P T=some ⟨k,1,w,z⟩) (p:e.sz=1)
  (o:J c n σ (M.set j (Ar e v (b.set i.toNat f))) L (wpList P ops Q rest)):
  J c n σ M L (wpList P ops Q (⟨none,.store T x y,ty,pos,aft,none⟩::rest)):=Rp j f s t q a m l p h.1 h.2 o
theorem tU [cO P] (j q:Nat) {T:V9} {G:Nat} {z:V0} {o:TypeDesc} {x y:V3} {v u:V0} {i:Int} {vs b:V6 V0} {f:V6 (V6 α)} (h:0<=i/\i<f.length) (E:ev σ x=some (Er v (i.toNat*1))) (F:ev σ y=some u)
  (A:M[j]? = some (Ar bI.raw v vs)) (C:M[q]? = some (fE e b f)) (l:vs.set i.toNat u=b) (H:b.length=vs.length) (k:one u=true) (p:cO.tab P T=some ⟨o,1,G,z⟩)
  (B:J c n σ (M.set j (Ar bI.raw v b)) L (wpList P ops Q rest)):
  J c n σ M L (wpList P ops Q (⟨none,.store T x y,ty,pos,aft,none⟩::rest)):=λa w s t=>by
 have m:b.length=f.length:=by obtain⟨_,h⟩:=t.res C;exact h.1
 exact Rp j u E F Z k A p Z h.1 V7 (by rw[l];exact B) a w s t
theorem Rv [cO P] (j:Nat) {T E:V9} {s1 s2 s3 s4:Nat} {z z':V0} {dE:TypeDesc} {x N:V3} {v:V0} {i:Int} {k:V6 α} (h:0<=i/\i<=k.length) (hx:ev σ x=some v) (G:ev σ N=some (.int .i64 i)) (J:M[j]? = some (Ar e v k))
  (hT:cO.tab P T=some ⟨.slice E,s1,s2,z⟩) (hE:cO.tab P E=some ⟨dE,s3,s4,z'⟩) (h3:e.sz=s3):
  aN P c n σ M L ⟨d,.slice T x (some N) none none,ty,pos,aft,g⟩ (λW:V0=>W) (λW=>M.set j (Ar e W (k.drop i.toNat))) (λ_=>L):=λa w s t=>by
 subst h3;obtain⟨h0,h1⟩:=h;obtain⟨F,I⟩:=t.res J;have C:(cellsOf e (k.drop i.toNat))=(cellsOf e k).drop (i.toNat*e.sz):=by
  have:cellsOf e k=cellsOf e (k.take i.toNat)++cellsOf e (k.drop i.toNat):=by rw[<-mM,zBf]
  have hl:(cellsOf e (k.take i.toNat)).length=i.toNat*e.sz:=by rw[eR,List.length_take,Nat.min_eq_left V7]
  rw[this,<-hl,List.drop_left]
 have A:(cellsOf e (k.drop i.toNat)).all one=true:=by
  rw[C,zA7];intro u hu;exact zA7.1 I.2.1 u (List.mem_of_mem_drop hu)
 obtain⟨hl,ad,R⟩:=I;rcases R with⟨rfl,rfl⟩|⟨b,m,f,X,y,rfl,ae,O,hk,hc,ht⟩
 .have S:i=0:=by simp at h1;omega
  subst S;have l:(execOp a.eval ⟨d,.slice T x (some N) none none,ty,pos,aft,g⟩).run P w = .ok (.value (.slice none 0 0)) w:=by
   simp[execOp,s.eval hx,s.eval G,Instr.sliceAt,Instr.slice,(cO.ok hT).run_und w,Instr.sliceBounds,Instr.sliceBound,asIntOf,(cO.ok hE).run_size w]
  simp only[Oper.wp,l,Oper.upon];refine⟨.slice none 0 0,rfl,?_⟩
  have:M.set j (Ar e (.slice none 0 0) (([]:V6 α).drop (0:Int).toNat))=M:=by
   apply List.ext_getElem?;intro q;by_cases eq:q=j
   .subst eq;rw[zAj (bB J),J];rfl
   .rw[zAq (Ne.symm eq)]
  rw[this];exact t
 .have U:i<=(k.length:Int):=h1;have l:(execOp a.eval ⟨d,.slice T x (some N) none none,ty,pos,aft,g⟩).run P w = .ok (.value (.slice (if f=i.toNat then some ⟨b,m,none⟩else some ⟨b,m+i.toNat*e.sz,none⟩) (k.length - i.toNat) (f - i.toNat))) w:=by
   simp[execOp,s.eval hx,s.eval G,Instr.sliceAt,Instr.slice,(cO.ok hT).run_und w,Instr.sliceBounds,Instr.sliceBound,asIntOf,(cO.ok hE).run_size w,h0,U,eM]
  simp only[Oper.wp,l,Oper.upon];refine⟨_,rfl,?_⟩
  refine t.upd J Z Z Z (zAg _) λF I _=>⟨λ_ _ _=>rfl,F,?_,λ_ h=> .inl h⟩
  obtain⟨_,_,R⟩:=I;rcases R with⟨V,_⟩|⟨b',ab,Y,ac,aa,V,o,B,_⟩
  .cases V
  .cases V;rw[O]at B;cases B;refine⟨Q1,A,.inr ?_⟩
   by_cases p:f=i.toNat
   .have H:k.drop i.toNat=[]:=List.drop_of_length_le V7;rw[if_pos p,H];exact⟨b,m,f - i.toNat,X,y,Q1,o,O,V8,by have:=zB0 e.sz (show f - i.toNat<=f by omega);omega,by simp[cellsOf]⟩
   .rw[if_neg p];refine⟨b,m+i.toNat*e.sz,f - i.toNat,X,y,V8,o,O,Q1,?_,?_⟩
    .have:=zB0 e.sz (show i.toNat<=f by omega);rw[Nat.sub_mul];omega
    .rw[C,<-ht,List.drop_take,List.drop_drop,List.length_drop,Nat.sub_mul]
end
def eT (M L b a:V6 aZ):Prop:=∀c w,St c M L w->St c b a w
section
variable {P:Program} {rd:V1 Nat} {c:wJ} {n:Sz} {σ:Fr} {M L M' L':V6 aZ} {Q:Exit->Act->V2->Prop} {ops:Array V5} {rest:V6 V5} {K:Act->V2->Prop}
variable {d:V1 Tmp} {D:Nat} {ty:V9} {pos:String} {aft:Array Edge} {g:V1 (Nat×V4)}
variable {α β:Type} {e:bI α} {r:eD α}
variable {H Bs:V6 (Nat×V6 aZ×V6 aZ)} {G:Act->V2->Prop} {GR:Act->V2->V6 (Nat×V2)->V6 (Nat×(V2->Prop))->Prop}
theorem cF (h:eT M L M' L') (k:J c n σ M' L' G):J c n σ M L G:=λa w s t=>k a w s (h c w t)
theorem zBn (h:eT M L M' L') (k:JR c n σ M' L' H Bs GR):JR c n σ M L H Bs GR:=λa w X Y s t b f=>k a w X Y s (h c w t) b f
theorem bG {p:Prop} (h:∀c w,St c M L w->p) (k:p->J c n σ M L G):J c n σ M L G:=λa w s t=>k (h c w t) a w s t
theorem bJ {p:Prop} (h:∀c w,St c M L w->p) (k:p->JR c n σ M L H Bs GR):JR c n σ M L H Bs GR:=λa w X Y s t b f=>k (h c w t) a w X Y s t b f
theorem Know.one {v:V0} {h:V6 α} (b:aG M L (Sl r v h)):∀c w,St c M L w->one v=true:=λc w t=>by
 obtain⟨S,i,a,f,_⟩:=b.st t;rw[f];rfl
theorem dQ (q:Nat) {vs:V6 V0} {xss:V6 (V6 α)} (a:M[q]? = some (fE e vs xss)):∀c w,St c M L w->vs.length=xss.length:=λc w t=>by
 obtain⟨_,h⟩:=t.res a;exact h.1
theorem eT.add {m:aZ} (h:∀w,m.p w (λ_=>False)):eT M L (m::M) L:=λc w t=>by
 obtain⟨v,F,l,s⟩:=t;refine⟨v,λi k=>match i with|0=>False|i+1=>F i k,⟨?_,?_,?_⟩,λf u=>aZ.same (s f u) (λk b=>⟨b.1,λi a=>by
   cases i with
   |zero=>exact a
   |succ i=>exact b.2 i a⟩) (λ_ _ _=>rfl)⟩
 .intro i x o;cases i with
  |zero=>simp at o;subst o;exact h w
  |succ i=>exact l.res i x (by simpa using o)
 .intro i k b;cases i with
  |zero=>exact b.elim
  |succ i=>exact l.rng i k b
 .intro i j k a q;cases i with
  |zero=>exact a.elim
  |succ i=>
   cases j with
   |zero=>exact q.elim
   |succ j=>exact congrArg (· + 1) (l.dis i j k a q)
theorem fK (e:bI α):eT M L (Ar e (.slice none 0 0) []::M) L:=eT.add λ_=>⟨V8,rfl,.inl ⟨rfl,rfl⟩⟩
theorem yJ (e:bI α) (k:Nat):eT M L (fE e (List.replicate k (.slice none 0 0)) (List.replicate k [])::M) L:=eT.add λw=>by
 refine⟨V8,λ_ _=>False,λi v f a b=> ?_,λ_ _ h=>h,λ_ _ _ h=>h.elim⟩
 rw[List.getElem?_replicate]at a b;split at a
 .rename_i h;rw[if_pos h]at b;cases a;cases b;exact⟨V8,rfl,.inl ⟨rfl,rfl⟩⟩
 .cases a
theorem kL (e:bI α):eT M L (fE e [] []::M) L:=yJ e 0
theorem Au (i j:Nat) {u:V0} {vs:V6 V0} {l:V6 (V6 α)} {y:V6 α} (s:Nat.beq i j=false) (R:M[i]? = some (fE e vs l)) (S:M[j]? = some (Ar e u y)):eT M L ((M.set i (fE e (vs++[u]) (l++[y]))).eraseIdx j) L:=λc w t=>
 t.merge i j (λe=>by subst e;simp at s) R S (by
  rintro w T E ⟨o,G,F,p,I⟩ O z;refine⟨by simp[o],λq k=>(q<vs.length/\G q k)\/(q=vs.length/\E k),?_,?_,?_⟩
  .intro q v C h m;by_cases A:q<vs.length
   .rw[zAc A]at h;rw[zAc V7]at m;exact aZ.same (f:=Ar e v C) (F q v C h m) (λk a=> .inl ⟨A,a⟩) (λ_ _ _=>rfl)
   .rw[zAb V7]at h;rw[zAb V7]at m;have x:q - vs.length=0:=by have:=bB h;simp at this;omega
    rw[x]at h;rw[show q - l.length=0 by omega]at m;simp at h m;subst h;subst m;exact aZ.same (f:=Ar e u y) O (λk a=> .inr ⟨V7,a⟩) (λ_ _ _=>rfl)
  .rintro q k (⟨_,a⟩|⟨_,a⟩)
   .exact .inl (p q k a)
   .exact .inr a
  .rintro q B k (⟨J,a⟩|⟨J,a⟩) (⟨N,b⟩|⟨N,b⟩)
   .exact I q B k a b
   .exact absurd b (z k (p q k a))
   .exact absurd a (z k (p B k b))
   .omega)
theorem t_ (i j:Nat) {vs I:V6 V0} {o p:V6 (V6 α)} (B:Nat.beq i j=false) (T:M[i]? = some (fE e vs o)) (U:M[j]? = some (fE e I p)):eT M L ((M.set i (fE e (vs++I) (o++p))).eraseIdx j) L:=λc w t=>
 t.merge i j (λe=>by subst e;simp at B) T U (by
  rintro w V W ⟨h,G,N,z,O⟩ ⟨m,J,y,l,A⟩ C;refine⟨by simp[h,m],λq k=>(q<vs.length/\G q k)\/(vs.length<=q/\J (q - vs.length) k),?_,?_,?_⟩
  .intro q v x s u;by_cases E:q<vs.length
   .rw[zAc E]at s;rw[zAc V7]at u;exact aZ.same (f:=Ar e v x) (N q v x s u) (λk a=> .inl ⟨E,a⟩) (λ_ _ _=>rfl)
   .rw[zAb V7]at s;rw[zAb V7,<-h]at u;exact aZ.same (f:=Ar e v x) (y _ v x s u) (λk a=> .inr ⟨V7,a⟩) (λ_ _ _=>rfl)
  .rintro q k (⟨_,a⟩|⟨_,a⟩)
   .exact .inl (z q k a)
   .exact .inr (l _ k a)
  .rintro q F k (⟨R,a⟩|⟨R,a⟩) (⟨S,b⟩|⟨S,b⟩)
   .exact O q F k a b
   .exact absurd (l _ k b) (C k (z q k a))
   .exact absurd (l _ k a) (C k (z F k b))
   .have:=A _ _ k a b;omega)
theorem Aw (i j:Nat) {u:V0} {k:Int} {vs:V6 V0} {a:V6 (V6 α)} {f:V6 α} (b:Nat.beq i j=false) (l:M[i]? = some (fE e vs a)) (m:M[j]? = some (Ar e u f)) (h:0<=k/\k<a.length):
  eT M L ((M.set i (fE e (vs.set k.toNat u) (a.set k.toNat f))).eraseIdx j) L:=λc w t=>by
 have o:=dQ i l c w t;exact Zv (n:=⟨0,[]⟩) (σ:=[]) (G:=λ_ w=>St c ((M.set i (fE e (vs.set k.toNat u) (a.set k.toNat f))).eraseIdx j) L w) (k:=k) i j b l m h.1 V7 (λ_ _ _ t=>t) ⟨#[],[]⟩ w ⟨rfl,rfl,λ_ _ h=>by simp[lk]at h⟩ t
theorem aF.tail (l:V6 aZ) {a:V6 aZ}:aF M (l++a) a:=λf b=>by
 obtain⟨j,h⟩:=List.getElem?_of_mem (List.mem_append_right l b);exact aG.fact j h
theorem bU {l:V6 V5} {m:V6 Nat} {b:Nat} {a:V6 Nat} (k:Nat) (i:a.all (Nat.ble b)=true) (f:a.map (l[·]?)=(l.drop k).map some) (h:J c n σ M L (wpList P l.toArray Q (l.drop k))):JR c n σ M L H Bs (RW P l.toArray Q (before m) (eG l) b a):=JR.tail i f h
def slq (v:V0) (l h b:Nat):V0:=match v with
 | .slice a _ cap=> .slice (if cap=l then a else a.map (·.add (l*b))) (h - l) (cap - l)
 |v=>v
theorem Fc.part {w:World} {S:Nat->Prop} {v:V0} {m:List α} (I:Fc r w S v m) {l h:Nat} (R:l<=h) (O:h<=m.length):Fc r w S (slq v l h r.sz) ((m.take h).drop l):=by
 obtain⟨a,o,rfl,N,y⟩:=I;have f:((m.take h).drop l).length=h - l:=by simp;omega
 by_cases q:(m.take h).drop l=[]
 .rw[q]at f ⊢;refine⟨_,_,by simp only[slq];congr 1;simpa using f.symm,by simp,.inl Z⟩
 .rcases y with rfl|⟨b,k,rfl,B,y⟩
  .simp at q
  .have E:l<h:=by
    rcases zAr l h with z|z
    .exact z
    .exfalso;apply q;apply zAn;omega
   have C:o≠l:=by omega
   refine⟨some ⟨b,k+l*r.sz,none⟩,o - l,by simp[slq,C,f,eM],by omega,.inr ⟨b,k+l*r.sz,rfl,B,λi x p=> ?_⟩⟩
   have t:m[l+i]? = some x:=by
    rw[zAu,zAt]at p;split at p
    .exact p
    .cases p
   obtain⟨A,s,F⟩:=y (l+i) x t;refine⟨A,λj u J=> ?_,F⟩
   have:=s j u J;rw[zB3]at this;rw[show k+l*r.sz+(i*r.sz+j)=k+(l*r.sz+i*r.sz+j) by omega];exact this
theorem ZS [cO P] {T E:V9} {B C j F:Nat} {z I:V0} {m:TypeDesc} {x i:V3} {v:V0} {k:Int} {l:V6 α} (A:ev σ x=some v) (f:ev σ i=some (.int .i64 k)) (u:aG M L (Sl r v l))
  (q:cO.tab P T=some ⟨.slice E,B,C,z⟩) (p:cO.tab P E=some ⟨m,j,F,I⟩) (h:0<=(0:Int)/\0<=k/\k<=l.length):Y P c n σ M L ⟨d,.slice T x none (some i) none,ty,pos,aft,g⟩ (slq v (0:Int).toNat k.toNat j):=λa w s t=>by
 obtain⟨S,J,b,y,N,_⟩:=u.st t;subst y;have o:0<=k/\k<=(b:Int):=V7
 simp[execOp,s.eval A,s.eval f,Instr.sliceAt,Instr.slice,(cO.ok q).run_und w,Instr.sliceBounds,Instr.sliceBound,asIntOf,(cO.ok p).run_size w,slq,o]
theorem ZT [cO P] {T E:V9} {B C k F:Nat} {z I:V0} {m:TypeDesc} {x j:V3} {v:V0} {i:Int} {b:V6 α} (A:ev σ x=some v) (f:ev σ j=some (.int .i64 i)) (u:aG M L (Sl r v b))
  (q:cO.tab P T=some ⟨.slice E,B,C,z⟩) (p:cO.tab P E=some ⟨m,k,F,I⟩) (h:0<=i/\i<=(b.length:Int)/\(b.length:Int)<=b.length):Y P c n σ M L ⟨d,.slice T x (some j) none none,ty,pos,aft,g⟩ (slq v i.toNat (b.length:Int).toNat k):=λa w s t=>by
 obtain⟨S,J,l,y,N,_⟩:=u.st t;subst y;have o:0<=i/\i<=(b.length:Int):=V7
 simp[execOp,s.eval A,s.eval f,Instr.sliceAt,Instr.slice,(cO.ok q).run_und w,Instr.sliceBounds,Instr.sliceBound,asIntOf,(cO.ok p).run_size w,slq,o]
theorem eQ [cO P] {T h:V9} {q u:Nat} {z:V0} {f:TypeDesc} {x:V3} {b o:Nat} {cs:V6 V0} {v:V0} (p:ev σ x=some (.pointer (some ⟨b,o,none⟩)))
  (j:aG M L (bH b cs h)) (k:cO.tab P T=some ⟨f,q,u,z⟩) (l:yA f=false) (m:cs[o]? = some v):Y P c n σ M L ⟨d,.load T x,ty,pos,aft,g⟩ v:=λa w s t=>by
 obtain⟨F,i⟩:=j.st t;simp[execOp,s.eval p,AE (cO.ok k) l (bH.cell i m)]
theorem p_ [cO P] {T E:V9} {k v A f B:Nat} {z C:V0} {l:TypeDesc} {x y:V3} {b:Nat} {i:Int} (q:ev σ x=some (.pointer (some ⟨b,0,none⟩))) (u:ev σ y=some (.int .i64 i))
  (p:cO.tab P T=some ⟨.array k E,v,A,z⟩) (o:cO.tab P E=some ⟨l,f,B,C⟩) (m:(f==0)=false) (h:0<=i/\i<(k:Int)):
  Y P c n σ M L ⟨d,.indexAddr T x y,ty,pos,aft,g⟩ (.pointer (some ⟨b,i.toNat*f,none⟩)):=λa w s t=>by
 have j:f≠0:=by simpa using m
 simp[execOp,s.eval q,s.eval u,Instr.indexAt,asIntOf,(cO.ok p).run_und w,h,Instr.sureAddr,(cO.ok o).run_size w,j,eM]
end
section
variable {P:Program} {rd:V1 Nat} {c:wJ} {n:Sz} {σ:Fr} {M L M' L':V6 aZ} {Q:Exit->Act->V2->Prop} {ops:Array V5} {rest:V6 V5} {K:Act->V2->Prop}
variable {d:V1 Tmp} {D:Nat} {ty:V9} {pos:String} {aft:Array Edge} {g:V1 (Nat×V4)}
variable {α β:Type} {e:bI α} {r:eD α}
theorem aO.b {A:Nat->V4} {f a M L:V6 aZ} {j:Nat} {H:V6 (Nat×V6 aZ×V6 aZ)} (h:A j=true) (k:aO A f a H):aO A f a ((j,M,L)::H):=⟨.inl h,k⟩
theorem aO.h {A:Nat->V4} {b a M L:V6 aZ} {j:Nat} {H:V6 (Nat×V6 aZ×V6 aZ)} (h:aX M b) (f:mD L a) (k:aO A b a H):aO A b a ((j,M,L)::H):=⟨.inr ⟨h,f⟩,k⟩
theorem aO.z {A:Nat->V4} {b a:V6 aZ}:aO A b a []:=trivial
theorem uT.b {A:Nat->V4} {f a M L:V6 aZ} {j:Nat} {H:V6 (Nat×V6 aZ×V6 aZ)} (h:A j=true) (k:uT A M L H):uT A M L ((j,f,a)::H):=⟨.inl h,k⟩
theorem uT.h {A:Nat->V4} {b a M L:V6 aZ} {j:Nat} {H:V6 (Nat×V6 aZ×V6 aZ)} (h:aX M b) (f:mD L a) (k:uT A M L H):uT A M L ((j,b,a)::H):=⟨.inr ⟨h,f⟩,k⟩
theorem uT.z {A:Nat->V4} {M L:V6 aZ}:uT A M L []:=trivial
theorem eJ {v:V0} {vs:V6 V0} (h:one v=true) (k:vs.all one=true):(v::vs).all one=true:=by simp[h,k]
theorem cY (k:IntKind) (x:Int):(Value.int k x).cells = #[.int k x]:=rfl
theorem cI (b:V4):(Value.bool b).cells = #[.bool b]:=rfl
theorem cD (a:V1 Addr) (l k:Nat):(Value.slice a l k).cells = #[.slice a l k]:=rfl
theorem cZ (a:V1 Addr):(Value.pointer a).cells = #[.pointer a]:=rfl
theorem c_ (a:ByteArray):(Value.string a).cells = #[.string a]:=rfl
theorem cJ (f:Fn) (a b:Array V0):(Value.func f a b).cells = #[.func f a b]:=rfl
theorem Fh (q:Nat) {vs:V6 V0} {a:V6 (V6 α)} {k:Int} {u:V0} (s:M[q]? = some (fE e (vs.set k.toNat u) a)) (h:0<=k/\k<a.length):∀c w,St c M L w->Go.Sx.one u=true:=λc w t=>by
 obtain⟨S,p,x,m,_⟩:=t.res s;have f:k.toNat<vs.length:=by simp at p;omega
 obtain⟨_,_,o⟩:=m k.toNat u _ (by rw[zAj f]) (zA0 V7);rcases o with⟨i,_⟩|⟨b,v,j,T,l,i,_⟩<;>(rw[i];rfl)
theorem XQ [cO P] [Inhabited α] {T o:V9} {C:Nat} {z:V0} {l:TypeDesc} {x:V3} {b k:Nat} {i:Int} {f:V6 α} {u:V0} (m:ev σ x=some (.pointer (some ⟨b,i.toNat*1,none⟩)))
  (q:aG M L (bH b (cellsOf e f) o)) (v:cO.tab P T=some ⟨l,1,C,z⟩) (y:yA l=false) (A:e.sz=1) (B:(e.enc (at' f i))=[u]) (h:(0<=i/\i<(k:Int))/\f.length=k):
  Y P c n σ M L ⟨d,.load T x,ty,pos,aft,g⟩ u:=λa w s t=>by
 obtain⟨F,p⟩:=q.st t;have j:=yK e f i.toNat (at' f i) (cG h.1.1 V7) 0 u (by rw[B];rfl);rw[A,Nat.add_zero]at j;rw[Nat.mul_one]at m j;simp[execOp,s.eval m,AE (cO.ok v) y (bH.cell p j)]
theorem LE [cO P] (q:Nat) {T j:V9} {B:Nat} {z:V0} {p:TypeDesc} {x y:V3} {b k:Nat} {i:Int} {a:V6 α} {u:V0} (o:α) (h:(0<=i/\i<(k:Int))/\a.length=k) (m:ev σ x=some (.pointer (some ⟨b,i.toNat*1,none⟩))) (A:ev σ y=some u)
  (s:M[q]? = some (bH b (cellsOf e a) j)) (w:e.enc o=[u]) (f:one u=true) (t:cO.tab P T=some ⟨p,1,B,z⟩) (l:e.sz=1)
  (v:J c n σ (M.set q (bH b (cellsOf e (a.set i.toNat o)) j)) L (wpList P ops Q rest)):
  J c n σ M L (wpList P ops Q (⟨none,.store T x y,ty,pos,aft,none⟩::rest)):=by
 rw[Nat.mul_one]at m;refine fS q m A f s t ?_ ?_
 .have:=eR e a;rw[l]at this;rw[zAy];omega
 .rw[<-yW l w];exact v
end
end Go.Sx
namespace Go.Sx
section
abbrev vI (x:Int):V0:= .int .i64 x
abbrev vU (x:Int):V0:= .int .u32 x
abbrev vP (b:Nat):V0:= .pointer (some ⟨b,0,none⟩)
open Go.RowKit
variable {P:Program} {rd:V1 Nat} {c:wJ} {n:Sz} {σ:Fr} {M L:V6 aZ} {Q:Exit->Act->V2->Prop} {ops:Array V5} {rest:V6 V5} {d:Nat} {ty:V9} {pos:String} {aft:Array Edge} {x y:V3} {v:V0} {K:Act->V2->Prop}
theorem aA (h:(ev σ x,Nat.blt d n.sz)=(some v,true)) (k:J c n ((d,v)::σ) M L (wpList P ops Q rest)):J c n σ M L (wpList P ops Q (⟨some d,.move x,ty,pos,aft,none⟩::rest)):=aB (iO (Prod.mk.inj h).1) (Prod.mk.inj h).2 k
theorem aC (h:(ev σ x,Nat.blt d n.sz)=(some v,true)) (k:J c n ((d,v)::σ) M L (wpList P ops Q rest)):J c n σ M L (wpList P ops Q (⟨some d,.assign x,ty,pos,aft,none⟩::rest)):=aB (Cg (Prod.mk.inj h).1) (Prod.mk.inj h).2 k
theorem bT [cO P] {T:V9} {r s i t:Nat} {z w:V0} {e:Array Field} {p u q:String} {m:V4} {g a j:Nat} {l:TypeDesc} {b o f:Nat} (h:(ev σ x,cO.tab P T,e[f]?,cO.tab P g,i==0,Nat.blt d n.sz)=(some (.pointer (some ⟨b,o,none⟩)),some ⟨.struct e,r,s,z⟩,some ⟨p,g,a,m,u,q,j⟩,some ⟨l,i,t,w⟩,false,true)) (k:J c n ((d,.pointer (some ⟨b,o+a,none⟩))::σ) M L (wpList P ops Q rest)):J c n σ M L (wpList P ops Q (⟨some d,.fieldAddr T x f,ty,pos,aft,none⟩::rest)):=by
  simp only[Prod.mk.injEq]at h;exact aB (cV h.1 h.2.1 h.2.2.1 h.2.2.2.1 h.2.2.2.2.1) h.2.2.2.2.2 k
theorem dO [cO P] (i:Nat) {T e:V9} {f g:Nat} {z:V0} {a:TypeDesc} {b o:Nat} {cs:V6 V0} (h:(ev σ x,M[i]?,cO.tab P T,yA a,cs[o]?,Nat.blt d n.sz)=(some (.pointer (some ⟨b,o,none⟩)),some (bH b cs e),some ⟨a,f,g,z⟩,false,some v,true)) (k:J c n ((d,v)::σ) M L (wpList P ops Q rest)):J c n σ M L (wpList P ops Q (⟨some d,.load T x,ty,pos,aft,none⟩::rest)):=by
  simp only[Prod.mk.injEq]at h;exact aB (eB i h.1 h.2.1 h.2.2.1 h.2.2.2.1 h.2.2.2.2.1) h.2.2.2.2.2 k
theorem dL [cO P] (i:Nat) {T e:V9} {f:Nat} {z:V0} {a:TypeDesc} {b:Nat} {cs:V6 V0} (h:(ev σ x,M[i]?,cO.tab P T,yA a,Nat.blt d n.sz)=(some (.pointer (some ⟨b,0,none⟩)),some (bH b cs e),some ⟨a,cs.length,f,z⟩,true,true)) (k:J c n ((d,.agg cs.toArray)::σ) M L (wpList P ops Q rest)):J c n σ M L (wpList P ops Q (⟨some d,.load T x,ty,pos,aft,none⟩::rest)):=by
  simp only[Prod.mk.injEq]at h;exact aB (fZ i h.1 h.2.1 h.2.2.1 h.2.2.2.1) h.2.2.2.2 k
theorem aQ {e:Op} {j:Nat} {b a:V4} (h:(gv ops σ j,a==b,Nat.blt d n.sz)=(some a,false,true)) (k:J c n ((d,undef)::σ) M L (wpList P ops Q rest)):J c n σ M L (wpList P ops Q (⟨some d,e,ty,pos,aft,some (j,b)⟩::rest)):=by
  simp only[Prod.mk.injEq]at h;exact Zr h.1 h.2.1 h.2.2 k
theorem iP {j:Nat} {b:V4} (h:(gv ops σ j,ev σ x,Nat.blt d n.sz)=(some b,some v,true)) (k:J c n ((d,v)::σ) M L (wpList P ops Q rest)):J c n σ M L (wpList P ops Q (⟨some d,.move x,ty,pos,aft,some (j,b)⟩::rest)):=by
  simp only[Prod.mk.injEq]at h;exact bA h.1 (iO h.2.1) h.2.2 k
theorem dD {t a:V9} {i:IntKind} {p q:Int} (h:(ev σ x,ev σ y,Nat.blt d n.sz)=(some (.int i p),some (.int i q),true)) (k:J c n ((d,.bool (decide (p<q)))::σ) M L (wpList P ops Q rest)):J c n σ M L (wpList P ops Q (⟨some d,.binOp .lss t x y a,ty,pos,aft,none⟩::rest)):=by
  simp only[Prod.mk.injEq]at h;exact aB (Ft h.1 h.2.1) h.2.2 k
theorem bZ {t a:V9} {i:IntKind} {p q:Int} (h:(ev σ x,ev σ y,Nat.blt d n.sz)=(some (.int i p),some (.int i q),true)) (k:J c n ((d,.bool (decide (p=q)))::σ) M L (wpList P ops Q rest)):J c n σ M L (wpList P ops Q (⟨some d,.binOp .eql t x y a,ty,pos,aft,none⟩::rest)):=by
  simp only[Prod.mk.injEq]at h;exact aB (ZL h.1 h.2.1) h.2.2 k
theorem cU {t a:V9} {i:IntKind} {p q:Int} (h:(ev σ x,ev σ y,Nat.blt d n.sz)=(some (.int i p),some (.int i q),true)) (k:J c n ((d,.int i (wI i (p+q)))::σ) M L (wpList P ops Q rest)):J c n σ M L (wpList P ops Q (⟨some d,.binOp .add t x y a,ty,pos,aft,none⟩::rest)):=by
  simp only[Prod.mk.injEq]at h;exact aB (Br h.1 h.2.1) h.2.2 k
theorem cdI {e b:Code} {p:Prop} {_:Decidable p} {f:Type} {u w:V1 f} {r:f} (h:(if p then u else w)=some r) (j:ev σ x=some (.bool (decide p))) (i:p->u=some r->J c n σ M L (e.wpr rd P Q)) (g:¬p->w=some r->J c n σ M L (b.wpr rd P Q)):J c n σ M L ((Code.cond x e b).wpr rd P Q):=adt j (λa=>i a (SE a h)) (λa=>g a (ifN a h))
theorem eI {b a:Code} {p:Prop} {_:Decidable p} {e:Type} {u w:V1 e} {r:e} (h:(if p then u else w)=some r) (i:ev σ x=some (.bool (decide p))) (g:u=some r->J c n σ M L (b.wpr rd P Q)) (f:w=some r->J c n σ M L (a.wpr rd P Q)):J c n σ M L ((Code.cond x b a).wpr rd P Q):=cdI h i (λ_=>g) (λ_=>f)
theorem Ca {f e:Code} {b:V4} {g:Type} {u w:V1 g} {r:g} (h:(if b=true then u else w)=some r) (k:ev σ x=some (.bool b)) (j:b=true->u=some r->J c n σ M L (f.wpr rd P Q)) (i:b=false->w=some r->J c n σ M L (e.wpr rd P Q)):J c n σ M L ((Code.cond x f e).wpr rd P Q):=Pk k (λa=>j a (SE a h)) (λa=>i a (Qh a h))
theorem GN {d:V1 Tmp} {f:Op} {j e:Nat} {p:Prop} {_:Decidable p} {b:V4} {i:Type} {u w:V1 i} {r:i} (h:(if p then u else w)=some r) (g:((ops[j]?).bind (·.dst),lk σ e)=(some e,some (.bool (decide p)))) (l:p->u=some r->J c n ((e,.bool true)::σ) M L (wpList P ops Q (⟨d,f,ty,pos,aft,some (j,b)⟩::rest))) (k:¬p->w=some r->J c n ((e,.bool false)::σ) M L (wpList P ops Q (⟨d,f,ty,pos,aft,some (j,b)⟩::rest))):J c n σ M L (wpList P ops Q (⟨d,f,ty,pos,aft,some (j,b)⟩::rest)):=Zq (Prod.mk.inj g).1 (Prod.mk.inj g).2 (λa=>l a (SE a h)) (λa=>k a (ifN a h))
theorem aM {ops:Array V5} (h:J c n σ M L K):J c n σ M L (wpList P ops (Exit.then K Q) []):=h
theorem aP {id:Nat} {l:V6 V5} {z:Code} (h:J c n σ M L (wpList P l.toArray (Exit.then (z.wpr rd P Q) Q) l)) (a:l.all kD=true:=by rfl):J c n σ M L ((Code.seq (Code.region id l.toArray false) z).wpr rd P Q):=aK (aR h a)
theorem Q4 {id:Nat} {z:Code} (h:(ev σ x,Nat.blt d n.sz)=(some v,true)) (k:J c n ((d,v)::σ) M L (z.wpr rd P Q)):J c n σ M L ((Code.seq (Code.region id [⟨some d,.assign x,ty,pos,aft,none⟩].toArray false) z).wpr rd P Q):=aP (aC h (aM k))
theorem Q6 {id:Nat} {l:List Oper} {z:Code} (h:(ev σ x,Nat.blt d n.sz)=(some v,true)) (k:J c n ((d,v)::σ) M L (wpList P (⟨some d,.move x,ty,pos,aft,none⟩::l).toArray (Exit.then (z.wpr rd P Q) Q) l)) (a:l.all kD=true:=by rfl):J c n σ M L ((Code.seq (Code.region id (⟨some d,.move x,ty,pos,aft,none⟩::l).toArray false) z).wpr rd P Q):=aP (aA h k) a
theorem Q5 (h:(ev σ x,Nat.blt d n.sz)=(some v,true)) (k:J c n ((d,v)::σ) M L K):J c n σ M L (wpList P ops (Exit.then K Q) [⟨some d,.assign x,ty,pos,aft,none⟩]):=aC h (aM k)
variable {A B:Type} {ret:Unit->V0} {MO LO:Unit->V6 aZ->V6 aZ} {fn:Func} {C:A->Prop} {σI:A->B->Fr} {MI LI:A->B->V6 aZ}
theorem mA {t:Tmp} (h:(ret (),fn.results,lk σ t,MO () [],LO () [],n.ds)=(v,#[.tmp t],some v,M,[],[])):J c n σ M L (iX P fn (RD c ret MO LO) .ret):=by
  simp only[Prod.mk.injEq]at h;exact fD () h.1 h.2.1 (RV.tmp h.2.2.1) (h.2.2.2.1▸aX.refl _) (by rw[h.2.2.2.2.1];exact aF.nil) h.2.2.2.2.2
theorem xT {t:Tmp} (h:(ret (),fn.results,lk σ t,MO () [],LO () [],n.ds)=(v,#[.tmp t],some v,[],[],[])):J c n σ M L (iX P fn (RD c ret MO LO) .ret):=by
  simp only[Prod.mk.injEq]at h;exact fD () h.1 h.2.1 (RV.tmp h.2.2.1) (by rw[h.2.2.2.1];exact aX.nil) (by rw[h.2.2.2.2.1];exact aF.nil) h.2.2.2.2.2
theorem Ez {x:Code} (C:A->Prop) (σI:A->B->Fr) (MI:A->B->V6 aZ) (e:J c n σ M L (x.wpr rd P (Exit.then (ZC c n C σI MI (λ_ _=>L)) Q))) (f:∀a b,C a->J c n (σI a b) (MI a b) L K):J c n σ M L (x.wpr rd P (Exit.then K Q)):=lT C σI MI (λ_ _=>L) e f
theorem gC {R:Type} {f:Code} (e:A->(A->V1 R)->V1 R) {r:R} {U:Nat} (σI:A->B->Fr) (MI:A->B->V6 aZ) (i:A) (j:B) (h:bN e U i=some r) (m:Ba σ (σI i j)) (l:aX M (MI i j)) (g:∀k a b,e a (bN e k)=some r->J c n (σI a b) (MI a b) L (f.wpr rd P (Exit.then (ads c n e r σI MI (λ_ _=>L) k) Q))):J c n σ M L ((Code.loop f).wpr rd P Q):=pN e σI MI (λ_ _=>L) i j h m l (aF.refl _ _) g
theorem iA {x:Code} (C:A->Prop) (σI:A->Unit->Fr) (MI:A->Unit->V6 aZ) (e:J c n σ M L (x.wpr rd P (Exit.then (ZC c n C σI MI (λ_ _=>L)) Q))) (f:∀a b,C a->J c n (σI a b) (MI a b) L K):J c n σ M L (x.wpr rd P (Exit.then K Q)):=Ez C σI MI e f
theorem cQ (h:J c n σ M L K):J c n σ M L (Code.skip.wpr rd P (Exit.then K Q)):=eP h
theorem m_ {id:Nat} (h:J c n σ M L K):J c n σ M L (Exit.inBlock id (Exit.then K Q) .normal):=h
theorem fO {id:Nat} {a b:Act->V2->Prop} (h:J c n σ M L K):J c n σ M L ((Code.exit id).wpr rd P (Exit.then a (Exit.then b (Exit.inBlock id (Exit.then K Q))))):=tB (fT (fT (Aj (CU h))))
theorem j_ (x:A) (y:B) (a:C x) (b:Ba σ (σI x y)) (h:(MI x y,LI x y)=(M,L)):J c n σ M L (ZC c n C σI MI LI):=cT x y a b ((Prod.mk.inj h).1▸aX.refl _) ((Prod.mk.inj h).2▸aF.refl _ _)
theorem BD {R:Type} {a:A->(A->V1 R)->V1 R} {r:R} {k:Nat} (x:A) (y:B) (h:bN a k x=some r) (b:Ba σ (σI x y)) (e:(MI x y,LI x y)=(M,L)):J c n σ M L (ads c n a r σI MI LI k):=iH x y h b ((Prod.mk.inj e).1▸aX.refl _) ((Prod.mk.inj e).2▸aF.refl _ _)
theorem zBk {A:Type} {ret:A->V0} {MO:A->V6 aZ->V6 aZ} {f:FuncId} {h:V6 V3} {vs:V6 V0} {a:Array V9} {e:V6 aZ} {d:V1 Tmp} {g:V1 (Nat×V4)} (j:aU P f) (k:a_ P f vs.toArray e ret MO (λ_ l=>l)) (m:h.map (ev σ)=vs.map some) (i:aF M L e) (b:∀x l,MO x l=MO x []++l:=by exact λ_ _=>rfl):aN P c n σ M L ⟨d,.call ⟨.value (.func f),h.toArray,a⟩,ty,pos,aft,g⟩ ret (λx=>MO x M) (λ_=>L):=Ur j k m i b
variable {l:V6 V5} {m:V6 Nat} {k0:Nat} {Bs:V6 (Nat×V6 aZ×V6 aZ)} {rs:V6 Nat} {i:Nat}
theorem bD (h:(l[i]?,ev σ x,Nat.blt i k0,Nat.blt d n.sz)=(some ⟨some d,.move x,ty,pos,aft,none⟩,some v,true,true)) (k:JR c n ((d,v)::σ) M L [] ((i,[],[])::Bs) (RW P l.toArray Q (before m) (eG l) k0 rs)):JR c n σ M L [] Bs (RW P l.toArray Q (before m) (eG l) k0 (i::rs)):=by
  simp only[Prod.mk.injEq]at h;exact bK h.1 aX.nil mD.nil (iO h.2.1) aO.z k h.2.2.1 Z h.2.2.2
theorem cN [cO P] {T:V9} {u w j D:Nat} {z F:V0} {e:Array Field} {s E t:String} {r:V4} {g a p:Nat} {q:TypeDesc} {b o f:Nat} (h:(l[i]?,ev σ x,cO.tab P T,e[f]?,cO.tab P g,j==0,Nat.blt i k0,Nat.blt d n.sz)=(some ⟨some d,.fieldAddr T x f,ty,pos,aft,none⟩,some (.pointer (some ⟨b,o,none⟩)),some ⟨.struct e,u,w,z⟩,some ⟨s,g,a,r,E,t,p⟩,some ⟨q,j,D,F⟩,false,true,true)) (k:JR c n ((d,.pointer (some ⟨b,o+a,none⟩))::σ) M L [] ((i,[],[])::Bs) (RW P l.toArray Q (before m) (eG l) k0 rs)):JR c n σ M L [] Bs (RW P l.toArray Q (before m) (eG l) k0 (i::rs)):=by
  simp only[Prod.mk.injEq]at h;exact bK h.1 aX.nil mD.nil (cV h.2.1 h.2.2.1 h.2.2.2.1 h.2.2.2.2.1 h.2.2.2.2.2.1) aO.z k h.2.2.2.2.2.2.1 Z h.2.2.2.2.2.2.2
theorem gW [cO P] (p:Nat) {T a:V9} {f g:Nat} {z:V0} {e:TypeDesc} {b o:Nat} {cs:V6 V0} (h:(l[i]?,ev σ x,M[p]?,cO.tab P T,yA e,cs[o]?,Nat.blt i k0,Nat.blt d n.sz)=(some ⟨some d,.load T x,ty,pos,aft,none⟩,some (.pointer (some ⟨b,o,none⟩)),some (bH b cs a),some ⟨e,f,g,z⟩,false,some v,true,true)) (k:JR c n ((d,v)::σ) M L [] ((i,[bH b cs a],[])::Bs) (RW P l.toArray Q (before m) (eG l) k0 rs)):JR c n σ M L [] Bs (RW P l.toArray Q (before m) (eG l) k0 (i::rs)):=by
  simp only[Prod.mk.injEq]at h;exact bK h.1 (aX.cons p h.2.2.1 aX.nil) mD.nil (eB 0 h.2.1 Z h.2.2.2.1 h.2.2.2.2.1 h.2.2.2.2.2.1) aO.z k h.2.2.2.2.2.2.1 Z h.2.2.2.2.2.2.2
theorem nP [cO P] (p:Nat) {T a:V9} {f:Nat} {z:V0} {e:TypeDesc} {b:Nat} {cs:V6 V0} (h:(l[i]?,ev σ x,M[p]?,cO.tab P T,yA e,Nat.blt i k0,Nat.blt d n.sz)=(some ⟨some d,.load T x,ty,pos,aft,none⟩,some (.pointer (some ⟨b,0,none⟩)),some (bH b cs a),some ⟨e,cs.length,f,z⟩,true,true,true)) (k:JR c n ((d,.agg cs.toArray)::σ) M L [] ((i,[bH b cs a],[])::Bs) (RW P l.toArray Q (before m) (eG l) k0 rs)):JR c n σ M L [] Bs (RW P l.toArray Q (before m) (eG l) k0 (i::rs)):=by
  simp only[Prod.mk.injEq]at h;exact bK h.1 (aX.cons p h.2.2.1 aX.nil) mD.nil (fZ 0 h.2.1 Z h.2.2.2.1 h.2.2.2.2.1) aO.z k h.2.2.2.2.2.1 Z h.2.2.2.2.2.2
end
theorem Da {X R:Type} {step:X->(X->V1 R)->V1 R} {r:R} (I:X->Prop) (d:X->Nat)
  (h:∀x e,I x->(∀b,I b->d b<d x->e b=some r)->step x e=some r):∀(a:Nat) (x:X),I x->d x<a->bN step a x=some r:=by
 intro a
 induction a with
 |zero=>intro x _ i;omega
 |succ k j=>
  intro x f i;exact h x _ f λb c g=>j b c V7
def OK {R:Type} (Q:R->Prop) (o:V1 R):Prop:=∃r,o=some r/\Q r
theorem AM {X R:Type} {step:X->(X->V1 R)->V1 R} {Q:R->Prop} (I:X->Prop) (d:X->Nat)
  (h:∀x e,I x->(∀b,I b->d b<d x->OK Q (e b))->OK Q (step x e)):∀(a:Nat) (x:X),I x->d x<a->OK Q (bN step a x):=by
 intro a
 induction a with
 |zero=>intro x _ i;omega
 |succ k j=>
  intro x f i;exact h x _ f λb c g=>j b c V7
theorem cR {b:Type} {p:Prop} [Decidable p] (a:p) (x:Option b):ck p x=x:=if_pos a
theorem Q7 {b:Type} {p:Prop} [Decidable p] (a:p:=by omega) {x:Option b}:ck p x=x:=cR a x
theorem wr {x:Int} (a : -9223372036854775808<=x) (b:x<=9223372036854775807):wI .i64 x=x:=if_pos ⟨a,b⟩
theorem Q9 {x:Int} (a: -9223372036854775808<=x:=by omega) (b:x<=9223372036854775807:=by omega):wI .i64 x=x:=wr a b
theorem bF {a b:Type} {x:V1 a} {y:a} {f:a->V1 b} (h:x=some y):x.bind f=f y:=by rw[h];rfl
theorem amv {a:Type} (l r:V6 a) (x y:a) (i:Nat) (h:l.length=i):(l++x::r).set i y=l++y::r:=by
 rw[List.set_append_right _ _ V7];simp[<-h]
theorem XV {a:Type} [Inhabited a] (l r:V6 a) (x:a) (i:Nat) (h:l.length=i):at' (l++x::r) (i:Int)=x:=by
 rw[mE,zAa,zAb V7];simp[<-h]
theorem dZ {X R:Type} {step:X->(X->V1 R)->V1 R} {K:V1 R} (N:Nat) (F:Nat->X) (c:∀(k:Nat) g,k<N->step (F k) g=g (F (k+1))) (e:∀g,step (F N) g=K):∀b,N<b->bN step b (F 0)=K:=by
 have i:∀(d a b:Nat),a+d=N->d<b->bN step b (F a)=K:=by
  intro d
  induction d with
  |zero=>
   intro a b j h;obtain rfl:a=N:=V7
   obtain⟨f,rfl⟩:∃f,b=f+1:=⟨b - 1,V7⟩
   exact e _
  |succ d l=>
   intro a b j h;obtain⟨f,rfl⟩:∃f,b=f+1:=⟨b - 1,V7⟩
   show step (F a) (bN step f)=K;rw[c a _ V7];exact l (a+1) f V7 V7
 exact λb h=>i N 0 b V7 h
theorem Be {X R:Type} {step:X->(X->V1 R)->V1 R} {K:X->V1 R} (N:Nat) (I:Nat->X->Prop) (e:∀(k:Nat) x i,k<N->I k x->∃c,I (k+1) c/\step x i=i c) (h:∀x i,I N x->step x i=K x):∀b x,I 0 x->N<b->∃c,I N c/\bN step b x=K c:=by
 have m:∀(d a b:Nat) (x:X),a+d=N->d<b->I a x->∃c,I N c/\bN step b x=K c:=by
  intro d
  induction d with
  |zero=>
   intro a b x p l g;obtain rfl:a=N:=V7
   obtain⟨f,rfl⟩:∃f,b=f+1:=⟨b - 1,V7⟩
   exact⟨x,g,h _ _ g⟩
  |succ d r=>
   intro a b x p l g;obtain⟨f,rfl⟩:∃f,b=f+1:=⟨b - 1,V7⟩
   obtain⟨c,j,q⟩:=e a x (bN step f) V7 g;obtain⟨s,n,o⟩:=r (a+1) f c V7 V7 j;exact⟨s,n,by rw[<-o];exact q⟩
 exact λb x g l=>m N 0 b x V7 l g
def adJ (q:Nat->V4):Nat->V4
 |0=>false
 |k+1=>adJ q k||q k
theorem ZX {q:Nat->V4}:∀{k:Nat},adJ q k=true↔∃i,i<k/\q i=true
 |0=>by simp[adJ]
 | k + 1 => by
  simp only[adJ,zAx,ZX (k:=k)];constructor
  .rintro(⟨i,b,a⟩|h)
   .exact⟨i,V7,a⟩
   .exact⟨k,V7,h⟩
  .rintro⟨i,b,a⟩;by_cases e:i=k
   .subst e;exact .inr a
   .exact .inl ⟨i,V7,a⟩
def tI (p:Nat->V4):Nat->Nat
 |0=>0
 |k+1=>if p k then tI p k ||| 2^k else tI p k
theorem SL (p:Nat->V4):∀k,tI p k<2^k
 |0=>by simp[tI]
 |k+1=>by
  have h:=SL p k;simp only[tI];split
  .exact Nat.or_lt_two_pow V7 (Nat.pow_lt_pow_right V7 V7)
  .omega
theorem OB (p:Nat->V4) (j:Nat):∀k,(tI p k).testBit j=(decide (j<k)&&p j)
 |0=>by simp[tI]
 | k + 1 => by
  have h:=OB p j k;simp only[tI];by_cases e:j=k
  .subst e;cases c:p j<;>simp[h,c]
  .have a:decide (j<k+1)=decide (j<k):=decide_eq_decide.2 V7;have b:¬k=j:=λh=>e h.symm;split
   .rw[Nat.testBit_or,h,zAz,a];simp[b]
   .rw[h,a]
theorem Kw {p q:Nat->V4}:∀{k:Nat},(∀j,j<k->p j=q j)->tI p k=tI q k
 |0,_=>rfl
 |k+1,h=>by simp only[tI,h k V7,Kw (k:=k) λj a=>h j V7]
end Go.Sx
end
