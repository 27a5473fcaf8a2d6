/- Models and proofs. Conditions: none. -/
import Derived.WalkKit
import Derived.RangeFuncRecord
import Derived.OrdersIn
import Derived.TacticsIn
import Derived.DefersIn
import Derived.Test.YtcnnfkapmjhnaaaGreatDoorProg
import Derived.Deep.AppendSrc
import Derived.Test.YtcnnfkapmjhnaaaGreatDoorRows
import Derived.ProofKit
import Derived.Deep.Slices
import Derived.Lib.SmallJoins
theorem Z.{u} {α:Sort u} {a:α}:a=a:=rfl
abbrev zA0:=@List.getElem?_eq_getElem
abbrev zA1:=@decide_eq_true_eq
abbrev zA2:=@Nat.eq_of_beq_eq_true
abbrev zA3:=@List.length_set
abbrev zA4:=@Bool.and_eq_true
abbrev zA5:=@List.all_eq_true
abbrev zA6:=@List.getD_eq_getElem?_getD
abbrev zA7:=@List.mem_cons_self
abbrev zA8:=@decide_eq_false
abbrev zA9:=@decide_eq_true
abbrev zAa:=@Array.getElem?_eq_some_iff
abbrev zAb:=@List.getElem?_append_right
abbrev zAc:=@Int.toNat_natCast
abbrev zAd:=@List.getElem?_append_left
abbrev zAe:=@Nat.le_refl
abbrev zAf:=@List.mem_range
abbrev zAg:=@Array.getElem?_toList
abbrev zAh:=@List.mem_cons_of_mem
abbrev zAi:=@List.length_append
abbrev zAj:=@List.length_cons
abbrev zAk:=@List.mem_cons
abbrev zAl:=@List.forall_mem_cons
abbrev zAm:=@List.getElem?_set_self
abbrev zAn:=@List.mem_map
abbrev zAo:=@Nat.lt_of_lt_of_le
abbrev zAp:=@Nat.lt_or_ge
abbrev zAq:=@List.eq_nil_of_length_eq_zero
abbrev zAr:=@List.getElem?_eq_none
abbrev zAs:=@List.getElem?_take
abbrev zAt:=@List.getElem?_drop
abbrev zAu:=@Nat.testBit_two_pow
abbrev zAv:=@List.mem_of_getElem?
abbrev zAw:=@Nat.blt_eq
abbrev zAx:=@Bool.or_eq_true
abbrev zAy:=@List.getElem?_set_ne
abbrev zAz:=@Array.getElem?_setIfInBounds_ne
abbrev zB0:=@Nat.lt_trichotomy
abbrev zB1:=@Nat.add_mul
abbrev zB2:=@Array.getElem?_setIfInBounds_self_of_lt
abbrev zB3:=@List.not_mem_nil
abbrev zB4:=@Nat.le_trans
abbrev zB5:=@Nat.mul_le_mul_right
abbrev zB6:=@List.nodup_cons
abbrev zB7:=@Array.getElem?_append_left
abbrev zB8:=@List.map_cons
abbrev zB9:=@List.append_assoc
abbrev zBa:=@Nat.eq_of_testBit_eq
noncomputable section
set_option linter.unusedVariables false
set_option linter.unusedSimpArgs false
set_option maxHeartbeats 4000000
set_option maxRecDepth 20000
namespace Go.Sx
open Go.RowKit
def FR (r:Option Nat):Fence:={Fence.wide with round:=r}
theorem NE (P:Program) (r:Option Nat):Machine.fenced P (FR r)=Machine.fenced P Fence.wide:=rfl
theorem Ux (r:Option Nat) (n:Nat):(FR r).room n:=λ_ h=>by cases h
theorem Vd {r:Option Nat} {n:Nat} {P:Program} {f:FuncId} {a:Array Value} {w:World} {R:Ending->World->Prop} (h:Calls P f a w R):CallsIn (FR r) n P f a w R:=
 ⟨trivial,λb _=>let ⟨e,w',fr,hr,s,x⟩:=h b;⟨e,w',fr,hr,(NE P r▸comesIn_wide.2 s),x⟩⟩
theorem QV {r:Option Nat} {n:Nat} {P:Program} {f:FuncId} {args:Array Value} {w:World} {R:Ending->World->Prop} (h:CallsIn (FR r) n P f args w R):Calls P f args w R:=
 λa=>let ⟨e,w',fr,hr,s,x⟩:=h.2 a (Ux r _);⟨e,w',fr,hr,ComesIn.comes s,x⟩
def _root_.Go.Code.wpr (r:Option Nat) (P:Program) (c:Code) (Q:Exit->Act->World->Prop) (a:Act) (w:World):Prop:=c.wpIn (FR r) 0 P Q a w
section
variable {r:Option Nat} {P:Program} {Q:Exit->Act->World->Prop} {a:Act} {w:World}
theorem IW {c:Code} {b:Exit->Act->World->Prop} (d:∀e a w,Q e a w->b e a w) (h:c.wpr r P Q a w):c.wpr r P b a w:=Code.wpIn_mono d h
theorem We {x y:Code} (h:x.wpr r P (Exit.then (y.wpr r P Q) Q) a w):(Code.seq x y).wpr r P Q a w:=wpIn_seq h
theorem Oz {id:Nat} {x:Code} (h:x.wpr r P (Exit.inBlock id Q) a w):(Code.block id x).wpr r P Q a w:=wpIn_block h
theorem SO (h:Q .normal a w):Code.skip.wpr r P Q a w:=wpIn_skip h
theorem SN {id:Nat} (h:Q (.exit id) a w):(Code.exit id).wpr r P Q a w:=wpIn_exit h
theorem Wd (h:Q .ret a w):Code.ret.wpr r P Q a w:=wpIn_ret h
theorem FQ {x:Operand} {d c:Code} {b:Bool} (e:a.eval x = .bool b) (g:b=true->d.wpr r P Q a w) (f:b=false->c.wpr r P Q a w):(Code.cond x d c).wpr r P Q a w:=wpIn_cond_split e g f
def _root_.Go.Oper.rnd (P:Program) (o:Oper) (a:Act) (w:World) (K:Act->World->Prop):Prop:=
 ∃l f d b c h,(execOp a.eval o).run P w = .ok (.round l f d b c) h∧RoundIn (FR none) 0 P l f d b c h λe g=>∃v,e = .returned v∧K (a.put o.dst v) g
theorem _root_.Go.Oper.rnd_mono {o:Oper} {K g:Act->World->Prop} (m:∀a w,K a w->g a w) (h:o.rnd P a w K):o.rnd P a w g:=by
 obtain⟨l,f,d,b,c,p,i,j⟩:=h;exact⟨l,f,d,b,c,p,i,j.mono λe q ⟨v,k,n⟩=>⟨v,k,m _ _ n⟩⟩
def kM (o:Oper):Bool:=match o.op with|.defer _=>false|_=>true
theorem aan {o:Oper} (h:kM o=true) (r:Option Nat) (b:Operand->Value):o.semAt r b=execOp b o:=
 Oper.semAt_eq r b o λc d=>by unfold kM at h;rw[d]at h;cases h
theorem agc {n:Nat} {d:String} {b:Array Value} {R:Value->World->Prop} (h:Rows P d b w R):RowsIn (FR r) n P d b w R:=λc e _=>
 let ⟨v,w',hr,s⟩:=h c e;⟨v,w',hr,(NE P r▸stepsIn_wide.2 s)⟩
theorem aeq {o:Oper} {K:Act->World->Prop} (z:kM o=true) (h:o.wp P a w K Q∨o.rnd P a w K):o.wpIn (FR r) 0 P a w K Q:=by
 refine⟨λ_ _=>trivial,?_⟩
 rw[aan z];rcases h with h|h
 ·unfold Oper.wp at h;cases n:(execOp a.eval o).run P w with
  | ok x q =>
   rw[n]at h;cases x with
   |value v=>exact h
   |skip=>exact h
   |defer d=>exact h
   |enter f b=>
    refine⟨(λg=>by cases g),(Vd h).mono ?_⟩
    intro e i k;cases e<;>exact k
   |row rw b=>exact⟨(λg=>by cases g),agc h⟩
   |_=>exact h.elim
  |halt x q=>
   rw[n]at h;cases x<;>first|exact h|exact h.elim
 ·obtain⟨l,f,p,j,m,q,u,y⟩:=h;rw[u];refine⟨(λg=>by cases g),?_⟩
  exact⟨trivial,λc t _=>by
   obtain⟨e,i,⟨v,k,A⟩,s⟩:=y.2 c t (Ux none _);subst k;exact⟨.returned v,i,A,s⟩⟩
end
def wpList (P:Program) (ops:Array Oper) (Q:Exit->Act->World->Prop):List Oper->Act->World->Prop
 | [],a,w=>Q .normal a w
 |o::rest,a,w=>
  if Region.wanted o (yielded ops a.tmps)then o.wp P a w (wpList P ops Q rest) Q∨o.rnd P a w (wpList P ops Q rest)else wpList P ops Q rest (a.put o.dst undef) w
theorem wpList_in {r:Option Nat} {P:Program} {ops:Array Oper} {Q:Exit->Act->World->Prop}:∀(l:List Oper) (a:Act) (w:World),l.all kM=true->wpList P ops Q l a w->wpListIn (FR r) 0 P ops Q l a w
 | [],_,_,_,h=>h
 | o :: rest, a, w, hd, h => by
  simp only[List.all_cons,zA4]at hd;unfold wpList at h;unfold wpListIn;by_cases b:Region.wanted o (yielded ops a.tmps)=true
  ·rw[if_pos b]at h ⊢;refine aeq hd.1 ?_;rcases h with h|h
   ·exact .inl (Oper.wp_mono (λa w h=>wpList_in rest a w hd.2 h) h)
   ·exact .inr (Oper.rnd_mono (λa w h=>wpList_in rest a w hd.2 h) h)
  ·rw[if_neg b]at h ⊢;exact⟨λ_ _=>trivial,wpList_in rest _ w hd.2 h⟩
theorem uW {r:Option Nat} {P:Program} {Q:Exit->Act->World->Prop} {a:Act} {w:World} {id:Nat} {l:List Oper} (b:l.all kM=true) (h:wpList P l.toArray Q l a w):(Code.region id l.toArray false).wpr r P Q a w:=
 wpIn_region_lit (wpList_in l a w b h)
def wpOp (P:Program) (b:Array Oper) (Q:Exit->Act->World->Prop) (i:Nat) (K:Act->World->Prop) (a:Act) (w:World):Prop:=
 match b[i]? with
 |none=>K a w
 |some o=>if Region.wanted o (yielded b a.tmps)then o.wp P a w K Q∨o.rnd P a w K else K (a.put o.dst undef) w
def Nf (P:Program) (b:Array Oper) (Q:Exit->Act->World->Prop):List Nat->Act->World->Prop
 | [],a,w=>Q .normal a w
 |i::rest,a,w=>wpOp P b Q i (Nf P b Q rest) a w
theorem Uv {P:Program} {c:Array Oper} {Q:Exit->Act->World->Prop} (i:Nat) (b:List Nat) (a:Act) (w:World):Nf P c Q (i::b) a w=wpOp P c Q i (Nf P c Q b) a w:=rfl
def wpAny (P:Program) (c:Region.Mode) (b:Array Oper) (Q:Exit->Act->World->Prop):Nat->Array Bool->Act->World->Prop
 |0,listed,a,w=>Region.ready c b listed=[]∧Q .normal a w
 |fuel+1,listed,a,w=>
  (Region.ready c b listed=[]->Q .normal a w)∧
  ∀i∈Region.ready c b listed,wpOp P b Q i (wpAny P c b Q fuel (listed.setIfInBounds i true)) a w
section
variable {r:Option Nat} {P:Program} {ops:Array Oper} {Q:Exit->Act->World->Prop}
theorem Wc {i:Nat} {K d:Act->World->Prop} {a:Act} {w:World} (f:∀o,ops[i]? = some o->kM o=true) (b:∀a w,K a w->d a w) (h:wpOp P ops Q i K a w):wpOpIn (FR r) 0 P ops Q i d a w:=by
 unfold wpOp at h;unfold wpOpIn;cases c:ops[i]? with
 |none=>rw[c]at h;exact b _ _ h
 | some o =>
  rw[c]at h;dsimp only at h ⊢;by_cases e:Region.wanted o (yielded ops a.tmps)=true
  ·rw[if_pos e]at h ⊢;refine aeq (f o c) ?_;rcases h with h|h
   ·exact .inl (Oper.wp_mono b h)
   ·exact .inr (Oper.rnd_mono b h)
  ·rw[if_neg e]at h ⊢;exact⟨λ_ _=>trivial,b _ _ h⟩
theorem SK (b:∀(i:Nat) (o:Oper),ops[i]? = some o->kM o=true):∀(s:List Nat) (a:Act) (w:World),Nf P ops Q s a w->wpOpsIn (FR r) 0 P ops Q s a w
 | [],_,_,h=>h
 |i::rest,a,w,h=>by
  rw[wpOpsIn_cons];exact Wc (b i) (λa w h=>SK b rest a w h) h
theorem SJ {d:Region.Mode} (c:∀(i:Nat) (o:Oper),ops[i]? = some o->kM o=true):∀(fuel:Nat) (b:Array Bool) (a:Act) (w:World),wpAny P d ops Q fuel b a w->wpAnyIn (FR r) 0 P d ops Q fuel b a w
 |0,_,_,_,h=>h
 |fuel+1,b,a,w,h=>⟨h.1,λi e=>Wc (c i) (λa w h=>SJ c fuel _ a w h) (h.2 i e)⟩
theorem Kp {l:List Oper} (h:l.all kM=true) (i:Nat) (o:Oper) (a:l.toArray[i]? = some o):kM o=true:=by
 have b:o∈l:=by
  rw[List.getElem?_toArray]at a;exact zAv a
 exact zA5.1 h o b
theorem FS {id:Nat} {l:List Oper} {a:Act} {w:World} (b:l.all kM=true) (c:P.follows .mixedOrders=true)
  (h:wpAny P .any l.toArray Q l.toArray.size (Array.replicate l.toArray.size false) a {w with drawn:=w.drawn+1}):(Code.region id l.toArray true).wpr r P Q a w:=
 wpIn_region_any c (SJ (Kp b) _ _ _ _ h)
theorem KG {id:Nat} {l:List Oper} {a:Act} {w:World} (b:l.all kM=true)
  (h:∀t,Nf P l.toArray Q (Region.schedule (P.follows .mixedOrders) l.toArray t) a {w with drawn:=w.drawn+1}):(Code.region id l.toArray true).wpr r P Q a w:=
 wpIn_region_draw λt=>SK (Kp b) _ _ _ (h t)
end
def iX (P:Program) (a:Func) (R:Ending->World->Prop):Exit->Act->World->Prop:=bodyPostM (FR none) 0 P a R
theorem vA {P:Program} {f:FuncId} {fn:Func} {c:Code} {a:Array Value} {w:World} {R:Ending->World->Prop} (d:P.funcs[f]? = some fn) (b:fn.body=some c)
  (h:c.wpr none P (iX P fn R) {tmps:=a++Array.replicate (fn.ntmps - a.size) undef,defers:=[]} w):Calls P f a w R:=
 QV (r:=none) (callsIn_of_wp_marks d b trivial h)
theorem body_end {P:Program} {fn:Func} {R:Ending->World->Prop} {a:Act} {w:World} {v:Value} {e:Exit} (f:e = .ret∨e = .normal) (c:a.defers=[]) (d:(results fn a.tmps).run P w = .ok v w) (b:R (.returned v) w):iX P fn R e a w:=by
 rcases f with rfl|rfl
 ·show LeavesInM (FR none) 0 P fn a.tmps R a.defers .returning w;rw[c];exact⟨v,d,b⟩
 ·show LeavesInM (FR none) 0 P fn a.tmps R a.defers .returning w;rw[c];exact⟨v,d,b⟩
theorem Wx {P:Program} {b:Func} {R:Ending->World->Prop} {a:Act} {w:World} {e:Exit} {D:Nat} {d:List Deferred} (j:e = .ret∨e = .normal) (i:a.defers={target:= .collected D,args:= #[]}::d) (f:w.heap[D]? = some (.deferred (some [])))
  (h:LeavesInM (FR none) 0 P b a.tmps R d .returning (w.putObj D (.deferred none))):iX P b R e a w:=by
 have c:LeavesInM (FR none) 0 P b a.tmps R a.defers .returning w:=by
  rw[i];exact⟨(λg=>by cases g),.inl ⟨D,_,rfl,run_takeDeferred f,h⟩⟩
 rcases j with rfl|rfl<;>exact c
abbrev Fr:=List (Nat×Value)
def lk:Fr->Nat->Option Value
 | [],_=>none
 |(k,v)::r,t=>bif Nat.beq t k then some v else lk r t
def ev (σ:Fr):Operand->Option Value
 | .tmp t=>lk σ t
 | .const v=>some v
 | .global g=>some (.pointer (some ⟨g,0,none⟩))
 | .func f=>some (.func (.func f) #[] #[])
structure Sz where
 sz:Nat
 ds:List Deferred
structure Gt (n:Sz) (σ:Fr) (a:Act):Prop where
 defers:a.defers=n.ds
 size:a.tmps.size=n.sz
 slot:∀t v,lk σ t=some v->a.tmps[t]? = some v
theorem Gt.eval {n:Sz} {c:Fr} {a:Act} (h:Gt n c a) {x:Operand} {v:Value} (b:ev c x=some v):a.eval x=v:=by
 cases x with
 |tmp t=>simp only[ev]at b;have:=h.slot t v b;simp[Act.eval,this]
 |const u=>simpa [ev,Act.eval]using b
 |global g=>simpa [ev,Act.eval]using b
 |func f=>simpa [ev,Act.eval]using b
theorem oK {t d:Nat} (e:t≠d):Nat.beq t d=false:=by
 cases h:Nat.beq t d with
 |false=>rfl
 |true=>exact absurd (zA2 h) e
theorem Gt.put {n:Sz} {f:Fr} {a:Act} (h:Gt n f a) (d:Nat) (v:Value) (g:Nat.blt d n.sz=true):Gt n ((d,v)::f) (a.put (some d) v):=by
 have c:d<n.sz:=by simpa [zAw]using g
 refine⟨h.defers,by simp[Act.put,h.size],λt u b=> ?_⟩
 simp only[lk]at b;by_cases e:t=d
 ·subst e;simp at b;subst b;simp[Act.put,h.size,c]
 ·rw[oK e]at b;simp only[cond_false]at b;simp only[Act.put];rw[zAz (Ne.symm e)];exact h.slot t u b
def Ah (b a:Fr):Prop:=∀t v,lk a t=some v->lk b t=some v
theorem Ah.nil {a:Fr}:Ah a []:=λ_ _ h=>by simp[lk]at h
theorem Ah.refl (a:Fr):Ah a a:=λ_ _ h=>h
theorem Ah.cons {c b:Fr} {t:Nat} {v:Value} (h:lk c t=some v) (r:Ah c b):Ah c ((t,v)::b):=by
 intro u x a;simp only[lk]at a;by_cases e:u=t
 ·subst e;simp at a;subst a;exact h
 ·rw[oK e]at a;exact r u x a
theorem Gt.weak {n:Sz} {c b:Fr} {a:Act} (h:Gt n c a) (d:Ah c b):Gt n b a:=
 ⟨h.defers,h.size,λt v e=>h.slot t v (d t v e)⟩
theorem SF {b a:Fr} (h:Ah b a:=by repeat (first|exact Ah.nil|refine Ah.cons Z ?_)):Ah b a:=h
structure bF where
 p:World->(Nat->Prop)->Prop
 mono:∀{w w':World} {S S':Nat->Prop},p w S->(∀k,S k->k<w.heap.size->S' k∧w'.heap[k]? = w.heap[k]?)->p w' S'
structure xD where
 w0:World
 S0:Nat->Prop
 O:Nat->Prop:=λ_=>False
def xD.mine (c:xD) (k:Nat):Prop:=c.w0.heap.size<=k∨c.O k
def xD.all (c:xD) (k:Nat):Prop:=c.S0 k∨c.mine k
abbrev OE (w w':World):Prop:=Below w.heap.size w w'
structure Dk (O:Nat->Prop) (w w':World):Prop where
 os:w'.os=w.os
 tape:w'.tape=w.tape
 output:w'.output=w.output
 size:w.heap.size<=w'.heap.size
 block:∀k,k<w.heap.size->¬O k->w'.heap[k]? = w.heap[k]?
theorem Dk.refl {O:Nat->Prop} (w:World):Dk O w w:=⟨rfl,rfl,rfl,zAe _,λ_ _ _=>rfl⟩
theorem Dk.trans {O:Nat->Prop} {a b c:World} (h:Dk O a b) (k:OE b c):Dk O a c:=
 ⟨k.os.trans h.os,k.tape.trans h.tape,k.output.trans h.output,zB4 h.size k.size,λi d e=>(k.block i (zAo d h.size)).trans (h.block i d e)⟩
theorem Dk.ext {w w':World} (h:Dk (λ_=>False) w w'):OE w w':=⟨h.os,h.tape,h.output,h.size,λk a=>h.block k a id⟩
structure Own (c:xD) (w:World) (M:List bF) (F:Nat->Nat->Prop):Prop where
 res:∀(i:Nat) (m:bF),M[i]? = some m->m.p w (F i)
 rng:∀i k,F i k->c.mine k∧k<w.heap.size
 dis:∀i j k,F i k->F j k->i=j
def Gs (c:xD) (F:Nat->Nat->Prop) (k:Nat):Prop:=c.all k∧∀i,¬F i k
structure St (c:xD) (M L:List bF) (w:World):Prop where
 old:Dk c.O c.w0 w
 own:∃F:Nat->Nat->Prop,Own c w M F∧∀f∈L,f.p w (Gs c F)
theorem bF.same {f:bF} {w c:World} {S a:Nat->Prop} (h:f.p w S) (d:∀k,S k->a k) (e:∀k,S k->k<w.heap.size->c.heap[k]? = w.heap[k]?):f.p c a:=
 f.mono h λk b g=>⟨d k b,e k b g⟩
theorem St.ext {c:xD} {M L:List bF} {w w':World} (h:St c M L w) (e:OE w w'):St c M L w':=by
 obtain⟨n,F,a,g⟩:=h;refine⟨n.trans e,F,⟨λi m l=>bF.same (a.res i m l) (λ_ h=>h) (λk _ b=>e.block k b),λi k d=>⟨(a.rng i k d).1,zAo (a.rng i k d).2 e.size⟩,a.dis⟩,
  λf j=>bF.same (g f j) (λ_ h=>h) (λk _ b=>e.block k b)⟩
def a_ (M M':List bF):Prop:=∃g:Nat->Nat,(∀i j,i<M'.length->j<M'.length->g i=g j->i=j)∧∀(i:Nat) (m:bF),M'[i]? = some m->M[g i]? = some m
theorem a_.refl (M:List bF):a_ M M:=⟨id,λ_ _ _ _ h=>h,λ_ _ h=>h⟩
theorem a_.nil {M:List bF}:a_ M []:=⟨id,λ_ _ h=>by simp at h,λ_ _ h=>by simp at h⟩
theorem a_.cons {M l:List bF} (i:Nat) {m:bF} (h:M[i]? = some m) (r:a_ (M.eraseIdx i) l):a_ M (m::l):=by
 obtain⟨g,p,q⟩:=r;let e:Nat->Nat:=λj=>match j with|0=>i|j+1=>if g j<i then g j else g j+1
 have t:i<M.length:=by
  rcases zAp i M.length with k|k
  ·exact k
  ·rw[zAr k]at h;cases h
 refine⟨e,?_,?_⟩
 ·intro a b n o c;cases a with
  |zero=>
   cases b with
   |zero=>rfl
   |succ b=>simp only[e]at c;split at c<;>omega
  | succ a =>
   cases b with
   |zero=>simp only[e]at c;split at c<;>omega
   |succ b=>
    simp only[zAj]at n o;have:g a=g b:=by simp only[e]at c;split at c<;>split at c<;>omega
    have:=p a b (by omega) (by omega) this;omega
 ·intro j s f;cases j with
  |zero=>simp at f;subst f;exact h
  |succ j=>
   simp only[List.getElem?_cons_succ]at f;have:=q j s f;rw[List.getElem?_eraseIdx]at this;simp only[e];split
   ·rename_i d;rwa[if_pos d]at this
   ·rename_i d;rwa[if_neg d]at this
theorem St.weak {c:xD} {M L d L':List bF} {w:World} (h:St c M L w) (r:a_ M d) (q:∀f∈L',f∈L):St c d L' w:=by
 obtain⟨v,F,l,s⟩:=h;obtain⟨g,t,u⟩:=r;refine⟨v,λi k=>i<d.length∧F (g i) k,⟨λi m a=> ?_,λi k b=>l.rng _ k b.2,λi j k a p=>t i j a.1 p.1 (l.dis _ _ k a.2 p.2)⟩,λf n=> ?_⟩
 ·have o:i<d.length:=by
   rcases zAp i d.length with e|e
   ·exact e
   ·rw[zAr e]at a;cases a
  exact bF.same (l.res _ m (u i m a)) (λk b=>⟨o,b⟩) (λ_ _ _=>rfl)
 ·exact bF.same (s f (q f n)) (λk b=>⟨b.1,λi a=>b.2 _ a.2⟩) (λ_ _ _=>rfl)
def Bz (L a:List bF):Prop:=∀f∈a,f∈L
theorem Bz.nil {L:List bF}:Bz L []:=λ_ h=>by simp at h
theorem Bz.cons {L b:List bF} {f:bF} (h:f∈L) (r:Bz L b):Bz L (f::b):=λg a=>by
 rcases zAk.1 a with rfl|a
 ·exact h
 ·exact r g a
def J (c:xD) (n:Sz) (b:Fr) (M L:List bF) (G:Act->World->Prop):Prop:=∀a w,Gt n b a->St c M L w->G a w
section rules
variable {P:Program} {rd:Option Nat} {c:xD} {n:Sz} {σ σ':Fr} {M M' L L':List bF} {G G':Act->World->Prop} {Q:Exit->Act->World->Prop}
theorem XM (h:J c n σ M L G) (g:∀a w,G a w->G' a w):J c n σ M L G':=λa w s t=>g a w (h a w s t)
theorem aev (h:J c n σ' M' L' G) (e:Ah σ σ') (d:a_ M M') (b:∀f∈L',f∈L):J c n σ M L G:=
 λa w s t=>h a w (s.weak e) (t.weak d b)
theorem aK {x y:Code} (h:J c n σ M L (x.wpr rd P (Exit.then (y.wpr rd P Q) Q))):J c n σ M L ((Code.seq x y).wpr rd P Q):=λa w s t=>We (h a w s t)
theorem aR {id:Nat} {x:Code} (h:J c n σ M L (x.wpr rd P (Exit.inBlock id Q))):J c n σ M L ((Code.block id x).wpr rd P Q):=λa w s t=>Oz (h a w s t)
theorem dD (h:J c n σ M L (Q .normal)):J c n σ M L (Code.skip.wpr rd P Q):=λa w s t=>SO (h a w s t)
theorem sD {id:Nat} (h:J c n σ M L (Q (.exit id))):J c n σ M L ((Code.exit id).wpr rd P Q):=λa w s t=>SN (h a w s t)
theorem aU (h:J c n σ M L (Q .ret)):J c n σ M L (Code.ret.wpr rd P Q):=λa w s t=>Wd (h a w s t)
theorem OF {x:Operand} {e d:Code} {b:Bool} (i:ev σ x=some (.bool b)) (g:b=true->J c n σ M L (e.wpr rd P Q)) (f:b=false->J c n σ M L (d.wpr rd P Q)):
  J c n σ M L ((Code.cond x e d).wpr rd P Q):=λa w s t=>FQ (s.eval i) (λh=>g h a w s t) (λh=>f h a w s t)
theorem Uy {x:Operand} {a b:Code} (d:ev σ x=some (.bool true)) (h:J c n σ M L (a.wpr rd P Q)):J c n σ M L ((Code.cond x a b).wpr rd P Q):=OF d (λ_=>h) (λh=>by cases h)
theorem CC {x:Operand} {d a:Code} (b:ev σ x=some (.bool false)) (h:J c n σ M L (a.wpr rd P Q)):J c n σ M L ((Code.cond x d a).wpr rd P Q):=OF b (λh=>by cases h) (λ_=>h)
theorem aQ {id:Nat} {l:List Oper} (h:J c n σ M L (wpList P l.toArray Q l)) (b:l.all kM=true:=by rfl):J c n σ M L ((Code.region id l.toArray false).wpr rd P Q):=λa w s t=>uW b (h a w s t)
theorem eV {a:Array Oper} (h:J c n σ M L (Q .normal)):J c n σ M L (wpList P a Q []):=h
variable {K:Act->World->Prop}
theorem CE (h:J c n σ M L K):J c n σ M L (Exit.then K Q .normal):=h
theorem fD {id:Nat} (h:J c n σ M L (Q (.exit id))):J c n σ M L (Exit.then K Q (.exit id)):=h
theorem aH (h:J c n σ M L (Q .ret)):J c n σ M L (Exit.then K Q .ret):=h
theorem HT {id:Nat} (h:J c n σ M L (Q .normal)):J c n σ M L (Exit.inBlock id Q .normal):=h
theorem bN {id:Nat} (h:J c n σ M L (Q .ret)):J c n σ M L (Exit.inBlock id Q .ret):=h
theorem yY {id:Nat} (h:J c n σ M L (Q .normal)):J c n σ M L (Exit.inBlock id Q (.exit id)):=λa w s t=>by
 simp only[Exit.inBlock,if_true];exact h a w s t
theorem aaZ {id b:Nat} (e:Nat.beq b id=false) (h:J c n σ M L (Q (.exit b))):J c n σ M L (Exit.inBlock id Q (.exit b)):=λa w s t=>by
 have:b≠id:=λh=>by subst h;simp at e
 simp only[Exit.inBlock,if_neg this];exact h a w s t
def Inv {X:Type} (c:xD) (n:Sz) (C:X->Prop) (b:X->Fr) (e d:X->List bF) (f:X->Nat) (m:Nat) (a:Act) (w:World):Prop:=
 ∃x,C x∧f x<m∧Gt n (b x) a∧St c (e x) (d x) w
theorem XL {X:Type} {d:Code} (C:X->Prop) (o:X->Fr) (D B:X->List bF) (H:X->Nat) (A:X) (h0:C A)
  (U:Ah σ (o A)) (hM:a_ M (D A)) (hL:∀f∈B A,f∈L)
  (r:∀x,C x->J c n (o x) (D x) (B x) (d.wpr rd P (Exit.then (Inv c n C o D B H (H x)) Q))):J c n σ M L ((Code.loop d).wpr rd P Q):=by
 intro a w s t b k I T O S;have Y:∀m x a w,H x=m->C x->Gt n (o x) a->St c (D x) (B x) w->
   ∃e E F,Q e E F∧ArrivesIn (Machine.fenced P (FR rd)) P (lone (b.atR a (.code d :: .inLoop d::k)) I w) b k I e E F:=by
  intro m
  induction m using Nat.strongRecOn with
  | _ m ih =>
   intro x a w hm hC U ht;obtain⟨e,h,i,p,g⟩:=r x hC a w U ht b (.inLoop d::k) I T O S;cases e with
   |normal=>
    obtain⟨y,N,R,V,W⟩:=p;obtain⟨v,u,z,q,j⟩:=ih (H y) (hm▸R) y h i Z N V W;exact⟨v,u,z,q,.of_steps (StepsIn.trans g (.one (fenced_calm O S Z) stepR_inLoop)) j⟩
   |exit id=>exact⟨_,h,i,p,.pass (x:= .inLoop d) Z (λ_ _=> .inl (by simp)) g⟩
   |goto l=>exact⟨_,h,i,p,.pass (x:= .inLoop d) Z (λ_ _=> .inl (by simp)) g⟩
   |ret=>exact⟨_,h,i,p,.pass (x:= .inLoop d) Z (λ_ _=> .inl (by simp)) g⟩
   |panic ch=>exact⟨_,h,i,p,.pass (x:= .inLoop d) Z (λ_ _=> .inl (by simp)) g⟩
   |outgrown=>exact⟨_,h,i,p,.pass (x:= .inLoop d) Z (λ_ _=> .inl (by simp)) g⟩
 obtain⟨e,E,F,p,g⟩:=Y _ A a w Z h0 (s.weak U) (t.weak hM hL);exact⟨e,E,F,p,.of_steps (.one (fenced_calm O S Z) stepR_loop) g⟩
def Y (P:Program) (c:xD) (n:Sz) (σ:Fr) (M L:List bF) (o:Oper) (v:Value):Prop:=
 ∀a w,Gt n σ a->St c M L w->(execOp a.eval o).run P w = .ok (.value v) w
theorem nZ {d:Array Oper} {b:List Oper} {o:Oper} {a:Act} {w:World} (e:Region.wanted o (yielded d a.tmps)=true)
  (h:o.wp P a w (wpList P d Q b) Q):wpList P d Q (o::b) a w:=by
 unfold wpList;rw[if_pos e];exact .inl h
theorem aD {f:Array Oper} {b:List Oper} {d:Nat} {i:Op} {j:TypeId} {g:String} {e:Array Edge} {v:Value}
  (l:Y P c n σ M L ⟨some d,i,j,g,e,none⟩ v) (k:Nat.blt d n.sz=true) (h:J c n ((d,v)::σ) M L (wpList P f Q b)):
  J c n σ M L (wpList P f Q (⟨some d,i,j,g,e,none⟩::b)):=λa w s t=>
 nZ Z (by simp only[Oper.wp,l a w s t,Oper.upon];exact h _ w (s.put d v k) t)
def gv (a:Array Oper) (σ:Fr) (j:Nat):Option Bool:=
 match ((a[j]?).bind (·.dst)).bind (lk σ)with
 |some (.bool b)=>some b
 |_=>none
theorem BQ {e:Array Oper} {j:Nat} {b:Bool} {a:Act} (s:Gt n σ a) (h:gv e σ j=some b):yielded e a.tmps j=some b:=by
 unfold gv at h;unfold yielded;cases g:(e[j]?).bind (·.dst)with
 |none=>simp[g]at h
 | some d =>
  simp only[g,Option.bind_some]at h ⊢;cases f:lk σ d with
  |none=>simp[f]at h
  |some v=>
   rw[s.slot d v f];rw[f]at h;cases v<;>first|exact h|cases h
theorem aW {f:Array Oper} {e:List Oper} {d:Nat} {k:Op} {l:TypeId} {i:String} {g:Array Edge} {j:Nat} {b:Bool} {v:Value}
  (o:gv f σ j=some b) (p:Y P c n σ M L ⟨some d,k,l,i,g,some (j,b)⟩ v) (m:Nat.blt d n.sz=true) (h:J c n ((d,v)::σ) M L (wpList P f Q e)):
  J c n σ M L (wpList P f Q (⟨some d,k,l,i,g,some (j,b)⟩::e)):=λa w s t=>
 nZ (by simp[Region.wanted,BQ s o]) (by simp only[Oper.wp,p a w s t,Oper.upon];exact h _ w (s.put d v m) t)
theorem XK {f:Array Oper} {e:List Oper} {d:Nat} {p:Op} {q:TypeId} {i:String} {g:Array Edge} {j:Nat} {b k:Bool}
  (o:gv f σ j=some k) (l:(k==b)=false) (m:Nat.blt d n.sz=true) (h:J c n ((d,undef)::σ) M L (wpList P f Q e)):
  J c n σ M L (wpList P f Q (⟨some d,p,q,i,g,some (j,b)⟩::e)):=λa w s t=>by
 unfold wpList;rw[if_neg (by simp[Region.wanted,BQ s o,l])];exact h _ w (s.put d undef m) t
theorem Gt.over {n:Sz} {σ:Fr} {a:Act} (h:Gt n σ a) {d:Nat} {v:Value} (f:a.tmps[d]? = some v):Gt n ((d,v)::σ) a:=
 ⟨h.defers,h.size,λt u b=>by
  simp only[lk]at b;by_cases e:t=d
  ·subst e;simp at b;subst b;exact f
  ·rw[oK e]at b;exact h.slot t u b⟩
theorem yX {f:Array Oper} {e:List Oper} {d:Option Tmp} {l:Op} {m:TypeId} {h:String} {g:Array Edge} {j k:Nat} {i b:Bool}
  (_:(f[j]?).bind (·.dst)=some k) (o:lk σ k=some (.bool i)) (q:i=true->J c n ((k,.bool true)::σ) M L (wpList P f Q (⟨d,l,m,h,g,some (j,b)⟩::e)))
  (p:i=false->J c n ((k,.bool false)::σ) M L (wpList P f Q (⟨d,l,m,h,g,some (j,b)⟩::e))):
  J c n σ M L (wpList P f Q (⟨d,l,m,h,g,some (j,b)⟩::e)):=by
 cases i
 ·exact λa w s t=>p Z a w (s.over (s.slot _ _ o)) t
 ·exact λa w s t=>q Z a w (s.over (s.slot _ _ o)) t
theorem XJ {e:Array Oper} {a:List Oper} {d:Option Tmp} {k:Op} {l:TypeId} {g:String} {f:Array Edge} {j i:Nat} {p:Prop} {_:Decidable p} {b:Bool}
  (m:(e[j]?).bind (·.dst)=some i) (q:lk σ i=some (.bool (decide p))) (r:p->J c n ((i,.bool true)::σ) M L (wpList P e Q (⟨d,k,l,g,f,some (j,b)⟩::a)))
  (o:¬p->J c n ((i,.bool false)::σ) M L (wpList P e Q (⟨d,k,l,g,f,some (j,b)⟩::a))):
  J c n σ M L (wpList P e Q (⟨d,k,l,g,f,some (j,b)⟩::a)):=
 yX m q (λh=>r (of_decide_eq_true h)) (λh=>o (of_decide_eq_false h))
theorem aaY {x:Operand} {b a:Code} {p:Prop} {_:Decidable p} (f:ev σ x=some (.bool (decide p))) (e:p->J c n σ M L (b.wpr rd P Q)) (d:¬p->J c n σ M L (a.wpr rd P Q)):
  J c n σ M L ((Code.cond x b a).wpr rd P Q):=OF f (λh=>e (of_decide_eq_true h)) (λh=>d (of_decide_eq_false h))
end rules
structure Ty where
 desc:TypeDesc
 size:Nat
 bytes:Nat
 zero:Value
structure uB (P:Program) (T:Nat) (d:Ty):Prop where
 und:P.underlying T=some d.desc
 info:∃i,P.info? T=some i∧i.size=d.size∧i.bytes=d.bytes∧i.zero=some d.zero
class dG (P:Program) where
 tab:Nat->Option Ty
 ok:∀{T d},tab T=some d->uB P T d
section
variable {P:Program} {T:Nat} {d:Ty} (w:World)
theorem uB.run_und (h:uB P T d):(underlying T).run P w = .ok d.desc w:=run_underlying h.und w
theorem uB.run_size (h:uB P T d):(sizeOf T).run P w = .ok d.size w:=by
 obtain⟨i,a,b,_,_⟩:=h.info;simp[sizeOf,typeInfo,a,b]
theorem uB.run_zero (h:uB P T d):(zeroValue T).run P w = .ok d.zero w:=by
 obtain⟨i,a,_,_,b⟩:=h.info;simp[zeroValue,typeInfo,a,b]
def zB:TypeDesc->Bool
 | .struct _ | .array _ _=>true
 |_=>false
theorem uB.run_agg (h:uB P T d):(isAgg T).run P w = .ok (zB d.desc) w:=by
 simp only[isAgg];simp[h.run_und w];cases d.desc<;>rfl
end
section
variable {P:Program} {rd:Option Nat} {c:xD} {n:Sz} {σ:Fr} {M L:List bF}
variable {d:Option Tmp} {ty:TypeId} {pos:String} {aft:Array Edge} {g:Option (Nat×Bool)}
theorem gN {x:Operand} {v:Value} (b:ev σ x=some v):Y P c n σ M L ⟨d,.move x,ty,pos,aft,g⟩ v:=λa w s _=>by
 simp[execOp,s.eval b]
theorem wO {x:Operand} {v:Value} (b:ev σ x=some v):Y P c n σ M L ⟨d,.assign x,ty,pos,aft,g⟩ v:=λa w s _=>by
 simp[execOp,s.eval b]
theorem KS {x y z:Operand} {v:Value} (b:ev σ x=some (.bool true)) (e:ev σ y=some v):Y P c n σ M L ⟨d,.pick x y z,ty,pos,aft,g⟩ v:=λa w s _=>by
 simp[execOp,s.eval b,s.eval e,asBool]
theorem KR {x y z:Operand} {v:Value} (b:ev σ x=some (.bool false)) (e:ev σ z=some v):Y P c n σ M L ⟨d,.pick x y z,ty,pos,aft,g⟩ v:=λa w s _=>by
 simp[execOp,s.eval b,s.eval e,asBool]
theorem OA {x:Int} (a : -9223372036854775808<=x) (b:x<=9223372036854775807):IntKind.i64.wrap x=x:=by
 unfold IntKind.wrap;simp only[IntKind.bits,IntKind.signed];simp;omega
theorem kE {a:BinOp} {t:TypeId} {x y:Operand} {k b:IntKind} {p q:Int} (w:World):(eqGuard a t x y (.int k p) (.int b q)).run P w = .ok () w:=by
 unfold eqGuard;cases a<;>simp
theorem QQ {t f:TypeId} {x y:Operand} {k:IntKind} {p q:Int} (b:ev σ x=some (.int k p)) (e:ev σ y=some (.int k q)) (h:q≠0):
  Y P c n σ M L ⟨d,.binOp .rem t x y f,ty,pos,aft,g⟩ (.int k (p.tmod q)):=λa w s _=>by
 simp[execOp,s.eval b,s.eval e,binOp,Op.intDiv,kE,h]
theorem GN {t f:TypeId} {x y:Operand} {k:IntKind} {p q:Int} (b:ev σ x=some (.int k p)) (e:ev σ y=some (.int k q)):
  Y P c n σ M L ⟨d,.binOp .lss t x y f,ty,pos,aft,g⟩ (.bool (decide (p<q))):=λa w s _=>by
 simp[execOp,s.eval b,s.eval e,binOp,Op.intCmp,kE]
theorem Dn {t f:TypeId} {x y:Operand} {k:IntKind} {p q:Int} (b:ev σ x=some (.int k p)) (e:ev σ y=some (.int k q)):
  Y P c n σ M L ⟨d,.binOp .leq t x y f,ty,pos,aft,g⟩ (.bool (decide (p<=q))):=λa w s _=>by
 simp[execOp,s.eval b,s.eval e,binOp,Op.intCmp,kE]
theorem Bp {t f:TypeId} {x y:Operand} {k:IntKind} {p q:Int} (b:ev σ x=some (.int k p)) (e:ev σ y=some (.int k q)):
  Y P c n σ M L ⟨d,.binOp .gtr t x y f,ty,pos,aft,g⟩ (.bool (decide (q<p))):=λa w s _=>by
 simp[execOp,s.eval b,s.eval e,binOp,Op.intCmp,kE]
theorem Bo {t f:TypeId} {x y:Operand} {k:IntKind} {p q:Int} (b:ev σ x=some (.int k p)) (e:ev σ y=some (.int k q)):
  Y P c n σ M L ⟨d,.binOp .geq t x y f,ty,pos,aft,g⟩ (.bool (decide (q<=p))):=λa w s _=>by
 simp[execOp,s.eval b,s.eval e,binOp,Op.intCmp,kE]
theorem QM {t f:TypeId} {x y:Operand} {k:IntKind} {p q:Int} (b:ev σ x=some (.int k p)) (e:ev σ y=some (.int k q)):
  Y P c n σ M L ⟨d,.binOp .eql t x y f,ty,pos,aft,g⟩ (.bool (decide (p=q))):=λa w s _=>by
 simp[execOp,s.eval b,s.eval e,binOp,Op.intCmp,kE];by_cases h:p=q<;>simp[h]
theorem Bq {t f:TypeId} {x y:Operand} {k:IntKind} {p q:Int} (b:ev σ x=some (.int k p)) (e:ev σ y=some (.int k q)):
  Y P c n σ M L ⟨d,.binOp .neq t x y f,ty,pos,aft,g⟩ (.bool (decide (p≠q))):=λa w s _=>by
 simp[execOp,s.eval b,s.eval e,binOp,Op.intCmp,kE];by_cases h:p=q<;>simp[h]
theorem kB {t:TypeId} {x:Operand} {b:Bool} (e:ev σ x=some (.bool b)):Y P c n σ M L ⟨d,.unOp .not t x,ty,pos,aft,g⟩ (.bool (!b)):=λa w s _=>by
 simp[execOp,s.eval e,Op.unary]
theorem aeA {t:TypeId} {x:Operand} {p:Prop} {_:Decidable p} (b:ev σ x=some (.bool (decide p))):Y P c n σ M L ⟨d,.unOp .not t x,ty,pos,aft,g⟩ (.bool (decide (¬p))):=λa w s _=>by
 simp[execOp,s.eval b,Op.unary]
theorem fZ {x:Operand} {vs:List Value} {i:Nat} {v:Value} (e:ev σ x=some (.tuple vs.toArray)) (b:vs[i]? = some v):Y P c n σ M L ⟨d,.extract x i,ty,pos,aft,g⟩ v:=λa w s _=>by
 simp[execOp,s.eval e,Instr.extract,b]
theorem Ka {t f:TypeId} {x y:Operand} {k:IntKind} {p q:Int} (b:ev σ x=some (.int k p)) (e:ev σ y=some (.int k q)):
  Y P c n σ M L ⟨d,.call ⟨.builtin .max,#[x,y],#[t,f]⟩,ty,pos,aft,g⟩ (.int k (max p q)):=λa w s _=>by
 simp[execOp,resolve,invoke,builtin,s.eval b,s.eval e,Builtin.max_,Builtin.max2];split<;>omega
theorem UB {t f:TypeId} {x y:Operand} {k:IntKind} {p q:Int} (b:ev σ x=some (.int k p)) (e:ev σ y=some (.int k q)):
  Y P c n σ M L ⟨d,.call ⟨.builtin .min,#[x,y],#[t,f]⟩,ty,pos,aft,g⟩ (.int k (min p q)):=λa w s _=>by
 simp[execOp,resolve,invoke,builtin,s.eval b,s.eval e,Builtin.min_,Builtin.min2];split<;>omega
theorem gX {e:Fn} {cs:List Operand} {vs:List Value} (b:cs.map (ev σ)=vs.map some):Y P c n σ M L ⟨d,.makeFunc e #[] cs.toArray,ty,pos,aft,g⟩ (.func e #[] vs.toArray):=λa w s _=>by
 have:cs.map a.eval=vs:=by
  induction cs generalizing vs with
  |nil=>cases vs<;>simp_all
  |cons x cs f=>
   cases vs with
   |nil=>simp at b
   |cons v vs=>simp at b;simp[s.eval b.1,f b.2]
 simp[execOp,Instr.makeFunc,this]
end
def at' {a:Type} [Inhabited a] (xs:List a) (i:Int):a:=xs.getD i.toNat default
theorem mJ {a:Type} [Inhabited a] {xs:List a} {i:Int} (b:0<=i) (h:i<xs.length):xs[i.toNat]? = some (at' xs i):=by
 unfold at';rw[zA6,zA0 (by omega)];rfl
theorem lF {b:Type} [Inhabited b] (a:List b) (i:Nat):at' a (i:Int)=a.getD i default:=by simp[at']
def Nh (v:Value) (o:Nat):Addr:=match v with
 | .slice (some a) _ _=>a.add o
 |_=>⟨0,o,none⟩
def F_ (v:Value) (o:Nat):Value:= .pointer (some (Nh v o))
theorem OC (a:Addr) (o p:Nat):(a.add o).add p=a.add (o+p):=by
 unfold Addr.add;by_cases b:o=0<;>by_cases c:p=0<;>simp[b,c,Nat.add_assoc]
theorem KW (v:Value) (o p:Nat):(Nh v o).add p=Nh v (o+p):=by
 unfold Nh;split
 ·exact OC _ _ _
 ·unfold Addr.add;split<;>simp_all
theorem fR (b a o:Nat):(⟨b,a,none⟩:Addr).add o=⟨b,a+o,none⟩:=by
 unfold Addr.add;split<;>simp_all
def bM (b:Nat) (cs:List Value) (T:TypeId):bF where
 p w F:=F b∧w.heap[b]? = some (.cells cs.toArray T (0,0))
 mono:=fun⟨c,a⟩ h=>by
  obtain⟨d,e⟩:=h b c (zAa.1 a).1;exact⟨d,by rw[e];exact a⟩
theorem bM.cell {b:Nat} {cs:List Value} {T:TypeId} {w:World} {F:Nat->Prop} (h:(bM b cs T).p w F) {o:Nat} {v:Value} (a:cs[o]? = some v):w.cell? ⟨b,o,none⟩=some v:=by
 simp[World.cell?,h.2,a]
theorem Qn {b:Nat} {a:List Value} {T:TypeId} {w:World} {F:Nat->Prop} (h:(bM b a T).p w F) (o:Nat):w.frozen? ⟨b,o,none⟩=false:=by
 simp[World.frozen?,h.2]
theorem St.res {c:xD} {M L:List bF} {w:World} (t:St c M L w) {i:Nat} {m:bF} (h:M[i]? = some m):∃F,m.p w F:=by
 obtain⟨_,F,a,_⟩:=t;exact⟨_,a.res i m h⟩
theorem St.fact {c:xD} {M L:List bF} {w:World} (t:St c M L w) {f:bF} (h:f∈L):∃S,f.p w S:=by
 obtain⟨_,F,_,a⟩:=t;exact⟨_,a f h⟩
structure fT (α:Type) where
 sz:Nat
 pos:0<sz
 R:World->(Nat->Prop)->List Value->α->Prop
 len:∀{w S cs x},R w S cs x->cs.length=sz
 mono:∀{w w':World} {S S':Nat->Prop} {cs x},R w S cs x->(∀k,S k->k<w.heap.size->S' k∧w'.heap[k]? = w.heap[k]?)->R w' S' cs x
def OJ {h:Type} (r:fT h) (w:World) (S:Nat->Prop) (v:Value) (f:List h):Prop:=
 ∃a c,v = .slice a f.length c∧(f.length<=9223372036854775807∧f.length<=c)∧(f=[]∨∃b d,a=some ⟨b,d,none⟩∧S b∧
  ∀i x,f[i]? = some x->∃g,(∀j e,g[j]? = some e->w.cell? ⟨b,d+(i*r.sz+j),none⟩=some e)∧r.R w S g x)
theorem WA {w a:World} {b o:Nat} {e:Value} (h:w.cell? ⟨b,o,none⟩=some e) (c:a.heap[b]? = w.heap[b]?):a.cell? ⟨b,o,none⟩=some e:=by
 rw[<-h];exact World.cell?_of_block c
theorem TW {w:World} {b o:Nat} {e:Value} (h:w.cell? ⟨b,o,none⟩=some e):b<w.heap.size:=World.block_lt_of_cell? w _ h
theorem OJ.mono {q:Type} {r:fT q} {w w':World} {S p:Nat->Prop} {v:Value} {f:List q} (h:OJ r w S v f)
  (e:∀k,S k->k<w.heap.size->p k∧w'.heap[k]? = w.heap[k]?):OJ r w' p v f:=by
 obtain⟨a,g,C,z,h⟩:=h;refine⟨a,g,C,z,?_⟩
 rcases h with h|⟨b,o,y,t,h⟩
 ·exact .inl h
 ·cases f with
  |nil=>exact .inl Z
  |cons F f=>
   obtain⟨d,c,n⟩:=h 0 F Z;have G:=r.len n;have A:=r.pos;have s:d[0]? = some (d[0]'(by omega)):=zA0 _;have m:=TW (c 0 _ s);obtain⟨l,D⟩:=e b t m;refine .inr ⟨b,o,y,l,λi x E=> ?_⟩;obtain⟨d,c,n⟩:=h i x E;exact⟨d,λj u B=>WA (c j u B) D,r.mono n e⟩
def Sl {a:Type} (r:fT a) (v:Value) (b:List a):bF where
 p w S:=OJ r w S v b
 mono:=λh e=>h.mono e
def fT.int (k:IntKind):fT Int where
 sz:=1
 pos:=Nat.one_pos
 R _ _ cs x:=cs=[.int k x]
 len h:=by simp[h]
 mono h _:=h
def fT.sl {a:Type} (r:fT a):fT (Value×List a) where
 sz:=1
 pos:=Nat.one_pos
 R w S cs x:=cs=[x.1]∧OJ r w S x.1 x.2
 len h:=by simp[h.1]
 mono h e:=⟨h.1,h.2.mono e⟩
def fT.pair {g i:Type} (r:fT g) (s:fT i):fT (g×i) where
 sz:=r.sz+s.sz
 pos:=zAo r.pos (Nat.le_add_right _ _)
 R w S cs x:=∃a b,cs=a++b∧r.R w S a x.1∧s.R w S b x.2
 len h:=by obtain⟨a,b,f,c,d⟩:=h;simp[f,r.len c,s.len d]
 mono h e:=by obtain⟨a,b,f,c,d⟩:=h;exact⟨a,b,f,r.mono c e,s.mono d e⟩
def fT.Cell {a:Type} (r:fT a) (j:Nat) (f:a->Value):Prop:=∀{w S es x},r.R w S es x->es[j]? = some (f x)
theorem HW (k:IntKind):(fT.int k).Cell 0 (λx=> .int k x):=λh=>by simp[show _=[_]from h]
theorem fT.sl_cell {a:Type} (r:fT a):(fT.sl r).Cell 0 (λx=>x.1):=λh=>by simp[h.1]
theorem rB {b e:Type} {r:fT b} {s:fT e} {j:Nat} {f:b->Value} (h:r.Cell j f):(r.pair s).Cell j (λx=>f x.1):=by
 rintro w S i x ⟨c,g,rfl,d,_⟩;have:=h d;rw[zAd (by
  rcases zAp j c.length with a|a
  ·exact a
  ·rw[zAr a]at this;cases this)]
 exact this
theorem dM {d b:Type} {r:fT d} {s:fT b} {j:Nat} {f:b->Value} (h:s.Cell j f):(r.pair s).Cell (r.sz+j) (λx=>f x.2):=by
 rintro w S i x ⟨e,g,rfl,a,c⟩;rw[zAb (by rw[r.len a];omega),r.len a,Nat.add_sub_cancel_left];exact h c
section
variable {P:Program} {rd:Option Nat} {c:xD} {n:Sz} {σ:Fr} {M L:List bF}
variable {d:Option Tmp} {ty:TypeId} {pos:String} {aft:Array Edge} {g:Option (Nat×Bool)}
variable {α:Type} {r:fT α}
theorem PV {T:TypeId} {e:Ty} {E:TypeId} (w:World) (f:uB P T e) (h:e.desc = .slice E) (a:Option Addr) (k b:Nat) (ty:TypeId):
  (Builtin.len_ #[T] ty #[.slice a k b]).run P w = .ok (.int .i64 k) w:=by
 simp[Builtin.len_,f.run_und w,h,goInt]
theorem JH {T:TypeId} {E:TypeId} {h f:Ty} (w:World) (o:uB P T h) (p:h.desc = .slice E) (m:uB P E f) (b e k a:Nat) (i:Int) (j:0<=i) (l:i<k):
  (Instr.indexAt T (.slice (some ⟨b,e,none⟩) k a) (.int .i64 i)).run P w = .ok (F_ (.slice (some ⟨b,e,none⟩) k a) (i.toNat*f.size)) w:=by
 simp[Instr.indexAt,asIntOf,o.run_und w,p,m.run_size w,j,l,F_,Nh]
theorem n_ [dG P] {T:TypeId} {D E h F:Nat} {z H:Value} {i:Array Field} {B G C:String} {m:Bool} {j b k:Nat} {l:TypeDesc} {x:Operand} {v:Value} {o f:Nat} (A:ev σ x=some (F_ v o))
  (u:dG.tab P T=some ⟨.struct i,D,E,z⟩) (y:i[f]? = some ⟨B,j,b,m,G,C,k⟩) (q:dG.tab P j=some ⟨l,h,F,H⟩) (p:(h==0)=false):
  Y P c n σ M L ⟨d,.fieldAddr T x f,ty,pos,aft,g⟩ (F_ v (o+b)):=λa w s t=>by
 have e:h≠0:=by simpa using p
 simp[execOp,s.eval A,Instr.fieldAt,(dG.ok u).run_und w,y,Instr.sureAddr,F_,fieldPlace,(dG.ok q).run_size w,e,KW]
theorem Az {T:TypeId} {a:Ty} {w:World} (b:uB P T a) (f:zB a.desc=false) {A:Addr} {e:Value} (h:w.cell? A=some e):
  (Instr.loadAt T (.pointer (some A))).run P w = .ok e w:=by
 simp[Instr.loadAt,Instr.sureAddr,loadVar,b.run_agg w,f,load,Sem.run,h]
theorem sl_cell {w:World} {S:Nat->Prop} {v:Value} {l:List α} (h:OJ r w S v l) {i:Nat} {x:α} (k:l[i]? = some x):
  ∃a,r.R w S a x∧∀j e,a[j]? = some e->w.cell? (Nh v (i*r.sz+j))=some e:=by
 obtain⟨t,m,q,_,h⟩:=h;rcases h with h|⟨b,s,rfl,_,h⟩
 ·subst h;simp at k
 ·obtain⟨a,f,p⟩:=h i x k;refine⟨a,p,λj e o=> ?_⟩
  subst q;simp only[Nh,fR];exact f j e o
end
section
variable {P:Program} {rd:Option Nat} {c:xD} {n:Sz} {σ:Fr} {M L:List bF} {Q:Exit->Act->World->Prop} {ops:Array Oper} {rest:List Oper}
variable {d:Option Tmp} {D:Nat} {ty:TypeId} {pos:String} {aft:Array Edge} {g:Option (Nat×Bool)}
theorem eI [dG P] {T:TypeId} {C E i F:Nat} {z H:Value} {j:Array Field} {A G B:String} {p:Bool} {k e l:Nat} {m:TypeDesc} {x:Operand} {b o f:Nat} (y:ev σ x=some (.pointer (some ⟨b,o,none⟩)))
  (u:dG.tab P T=some ⟨.struct j,C,E,z⟩) (v:j[f]? = some ⟨A,k,e,p,G,B,l⟩) (r:dG.tab P k=some ⟨m,i,F,H⟩) (q:(i==0)=false):
  Y P c n σ M L ⟨d,.fieldAddr T x f,ty,pos,aft,g⟩ (.pointer (some ⟨b,o+e,none⟩)):=λa w s t=>by
 have h:i≠0:=by simpa using q
 simp[execOp,s.eval y,Instr.fieldAt,(dG.ok u).run_und w,v,Instr.sureAddr,fieldPlace,(dG.ok r).run_size w,h,fR]
theorem d_ [dG P] (i:Nat) {T f:TypeId} {q r:Nat} {z:Value} {e:TypeDesc} {x:Operand} {b o:Nat} {cs:List Value} {v:Value} (p:ev σ x=some (.pointer (some ⟨b,o,none⟩)))
  (j:M[i]? = some (bM b cs f)) (k:dG.tab P T=some ⟨e,q,r,z⟩) (l:zB e=false) (m:cs[o]? = some v):
  Y P c n σ M L ⟨d,.load T x,ty,pos,aft,g⟩ v:=λa w s t=>by
 obtain⟨F,h⟩:=t.res j;simp[execOp,s.eval p,Az (dG.ok k) l (bM.cell h m)]
theorem CP {T:TypeId} {a:Ty} {w:World} (b:uB P T a) (e:zB a.desc=true) {A:Addr} {cs:List Value} (f:cs.length=a.size) (h:∀j v,cs[j]? = some v->w.cell? (A.add j)=some v):
  (Instr.loadAt T (.pointer (some A))).run P w = .ok (.agg cs.toArray) w:=by
 have:=run_loadCells_list (P:=P) w A cs h;simp[Instr.loadAt,Instr.sureAddr,loadVar,b.run_agg w,e,b.run_size w,<-f,this]
theorem jX [dG P] (i:Nat) {T f:TypeId} {q:Nat} {z:Value} {e:TypeDesc} {x:Operand} {b:Nat} {cs:List Value} (p:ev σ x=some (.pointer (some ⟨b,0,none⟩)))
  (k:M[i]? = some (bM b cs f)) (l:dG.tab P T=some ⟨e,cs.length,q,z⟩) (m:zB e=true):
  Y P c n σ M L ⟨d,.load T x,ty,pos,aft,g⟩ (.agg cs.toArray):=λa w s t=>by
 obtain⟨F,h⟩:=t.res k;have:=CP (w:=w) (A:=⟨b,0,none⟩) (cs:=cs) (dG.ok l) m Z (λj v o=>by rw[fR,Nat.zero_add];exact bM.cell h o);simp[execOp,s.eval p,this]
theorem St.alloc {w:World} (t:St c M L w) (cs:List Value) (T:TypeId):St c (bM w.heap.size cs T::M) L (w.alloc (.cells cs.toArray T)):=by
 have e:OE w (w.alloc (.cells cs.toArray T)):=(Below.refl _ _).alloc (zAe _) _;obtain⟨s,F,a,u⟩:=t;have r:∀k,k<w.heap.size->(w.alloc (.cells cs.toArray T)).heap[k]? = w.heap[k]? := e.block;refine⟨s.trans e,λi k=>match i with|0=>k=w.heap.size|i+1=>F i k,⟨?_,?_,?_⟩,λf v=> ?_⟩
 ·intro i m q;cases i with
  |zero=>
   simp at q;subst q;exact⟨rfl,heap_alloc_new w _⟩
  |succ i=>exact bF.same (a.res i m (by simpa using q)) (λ_ h=>h) (λk _ p=>r k p)
 ·intro i k l;cases i with
  |zero=>subst l;exact⟨.inl s.size,by simp⟩
  |succ i=>exact⟨(a.rng i k l).1,zAo (a.rng i k l).2 e.size⟩
 ·intro i j k b o;cases i with
  |zero=>
   cases j with
   |zero=>rfl
   |succ j=>have:=(a.rng j k o).2;simp only at b;omega
  |succ i=>
   cases j with
   |zero=>have:=(a.rng i k b).2;simp only at o;omega
   |succ j=>exact congrArg (· + 1) (a.dis i j k b o)
 ·exact f.mono (u f v) λk l p=>⟨⟨l.1,λi b=>by
   cases i with
   |zero=>simp only at b;omega
   |succ i=>exact l.2 i b⟩,r k p⟩
theorem JG {T:TypeId} {a:Ty} (w:World) (b:uB P T a):(Instr.alloc T true (.tuple #[])).run P w = .ok (.pointer (some ⟨w.heap.size,0,none⟩)) (w.alloc (.cells a.zero.cells T)):=by
 simp[Instr.alloc,b.run_zero w,newVar,newRow]
theorem KQ {w s:World} {F:Nat->Nat->Prop} (t:Dk c.O c.w0 w) (l:Own c w M F) (S:∀f∈L,f.p w (Gs c F)) {i:Nat} {m R:bF} (N:M[i]? = some m) (I:s.os=w.os) (J:s.tape=w.tape) (v:s.output=w.output) (u:w.heap.size<=s.heap.size)
  (B:∀k,k<w.heap.size->¬F i k->s.heap[k]? = w.heap[k]?) {F':Nat->Prop} (A:R.p s F') (b:∀k,F' k->F i k∨(w.heap.size<=k∧k<s.heap.size)):St c (M.set i R) L s:=by
 refine⟨⟨I.trans t.os,J.trans t.tape,v.trans t.output,zB4 t.size u,λk a K=>(B k (zAo a t.size) (λE=>(l.rng i k E).1.elim (λh=>by omega) K)).trans (t.block k a K)⟩,λj k=>(j=i∧F' k)∨(j≠i∧F j k),⟨?_,?_,?_⟩,λf T=> ?_⟩
 ·intro j U x;by_cases e:j=i
  ·subst e;have H:j<M.length:=by
    rcases zAp j M.length with o|o
    ·exact o
    ·rw[zAr o]at N;cases N
   rw[zAm H]at x;cases x;exact bF.same A (λk a=> .inl ⟨rfl,a⟩) (λ_ _ _=>rfl)
  ·rw[zAy (Ne.symm e)]at x;exact bF.same (l.res j U x) (λk a=> .inr ⟨e,a⟩) (λk a G=>B k G (λC=>e (l.dis j i k a C)))
 ·rintro j k (⟨_,a⟩|⟨_,a⟩)
  ·rcases b k a with a|⟨q,r⟩
   ·exact⟨(l.rng i k a).1,zAo (l.rng i k a).2 u⟩
   ·exact⟨.inl (zB4 t.size q),r⟩
  ·exact⟨(l.rng j k a).1,zAo (l.rng j k a).2 u⟩
 ·rintro V W k (⟨y,q⟩|⟨y,q⟩) (⟨z,r⟩|⟨z,r⟩)
  ·rw[y,z]
  ·rcases b k q with q|⟨q,_⟩
   ·exact absurd (l.dis _ _ k r q) z
   ·have:=(l.rng _ k r).2;omega
  ·rcases b k r with r|⟨r,_⟩
   ·exact absurd (l.dis _ _ k q r) y
   ·have:=(l.rng _ k q).2;omega
  ·exact l.dis _ _ k q r
 ·exact f.mono (S f T) λk a G=>⟨⟨a.1,by
   rintro j (⟨_,o⟩|⟨_,o⟩)
   ·rcases b k o with o|⟨o,_⟩
    ·exact a.2 _ o
    ·omega
   ·exact a.2 _ o⟩,B k G (a.2 i)⟩
theorem St.upd {w w':World} (t:St c M L w) {i:Nat} {m s:bF} (r:M[i]? = some m) (l:w'.os=w.os) (q:w'.tape=w.tape) (a:w'.output=w.output) (o:w.heap.size<=w'.heap.size)
  (h:∀F,m.p w F->(∀k,F k->c.mine k∧k<w.heap.size)->(∀k,k<w.heap.size->¬F k->w'.heap[k]? = w.heap[k]?)∧∃e,s.p w' e∧∀k,e k->F k∨(w.heap.size<=k∧k<w'.heap.size)):
  St c (M.set i s) L w':=by
 obtain⟨x,F,f,u⟩:=t;obtain⟨v,e,j,b⟩:=h (F i) (f.res i m r) (f.rng i);exact KQ x f u r l q a o v j b
end
section
variable {P:Program} {rd:Option Nat} {c:xD} {n:Sz} {σ:Fr} {M L:List bF} {Q:Exit->Act->World->Prop} {ops:Array Oper} {rest:List Oper}
variable {d:Option Tmp} {D:Nat} {ty:TypeId} {pos:String} {aft:Array Edge} {g:Option (Nat×Bool)}
def one:Value->Bool
 | .agg _ | .tuple _=>false
 |_=>true
@[simp] theorem agx (a:Option Addr) (k c:Nat):one (.slice a k c)=true:=rfl
@[simp] theorem ahY (k:IntKind) (x:Int):one (.int k x)=true:=rfl
theorem kX {v:Value} (h:one v=true):v.cells = #[v]:=by cases v<;>first|rfl|cases h
theorem qG {v:Value} (h:one v=true):v.oneCell'=true:=by cases v<;>first|rfl|cases h
theorem Im {w:World} {b o:Nat} {a:List Value} {T:TypeId} (h:w.heap[b]? = some (.cells a.toArray T (0,0))) (v:Value):
  (w.setCell ⟨b,o,none⟩ v).heap[b]? = some (.cells (a.set o v).toArray T (0,0)):=by
 simp[World.setCell,Array.getElem?_modify,h]
theorem St.store {w:World} (t:St c M L w) {i b o:Nat} {f:List Value} {T:TypeId} (j:M[i]? = some (bM b f T)) (v:Value):
  St c (M.set i (bM b (f.set o v) T)) L (w.setCell ⟨b,o,none⟩ v):=
 t.upd j Z Z Z (by simp[World.setCell]) λF a _=>⟨λk _ l=>Below.heap_setCell _ _ _ _ (λe=>l (by simp only at e;subst e;exact a.1)),
  F,⟨a.1,Im a.2 v⟩,λ_ h=> .inl h⟩
theorem Es {T:TypeId} {b:Ty} {w:World} (j:uB P T b) (l:b.size=1) {A:Addr} {v e:Value} (f:one v=true) (h:w.cell? A=some e) (k:w.frozen? A=false):
  (Instr.storeAt T (.pointer (some A)) v).run P w = .ok () (w.setCell A v):=by
 have i:A.add 0=A:=rfl;have a:(store A v).run P w = .ok () (w.setCell A v):=by
  unfold store;cases v<;>first|(simp only[Sem.run,h,k];rfl)|cases f
 simp only[Instr.storeAt,Instr.sureAddr,storeVar,kX f];simp[j.run_size w,l,storeCells,i,a]
theorem fK [dG P] (i:Nat) {T j:TypeId} {B:Nat} {z:Value} {m:TypeDesc} {x y:Operand} {b o:Nat} {cs:List Value} {v:Value} (u:ev σ x=some (.pointer (some ⟨b,o,none⟩)))
  (A:ev σ y=some v) (r:one v=true) (l:M[i]? = some (bM b cs j)) (p:dG.tab P T=some ⟨m,1,B,z⟩) (q:Nat.blt o cs.length=true)
  (h:J c n σ (M.set i (bM b (cs.set o v) j)) L (wpList P ops Q rest)):
  J c n σ M L (wpList P ops Q (⟨none,.store T x y,ty,pos,aft,none⟩::rest)):=λa w s t=>by
 refine nZ Z ?_;obtain⟨F,k⟩:=t.res l;have f:o<cs.length:=by simpa [zAw]using q
 have e:(execOp a.eval ⟨none,.store T x y,ty,pos,aft,none⟩).run P w = .ok .skip (w.setCell ⟨b,o,none⟩ v):=by
  simp[execOp,s.eval u,s.eval A,Es (dG.ok p) Z r (bM.cell k (zA0 f)) (Qn k o)]
 simp only[Oper.wp,e,Oper.upon];exact h _ _ s (t.store l v)
theorem St.fill {w:World} (t:St c M L w) {i b:Nat} {cs a:List Value} {T:TypeId} (j:M[i]? = some (bM b cs T)):
  St c (M.set i (bM b a T)) L (w.setRow b a.toArray):=
 t.upd j Z Z Z (by simp) λF f _=>⟨λk _ l=>setRow_other w b k _ (λe=>l (by subst e;exact f.1)),
  F,⟨f.1,setRow_heap w b _ _ T _ f.2⟩,λ_ h=> .inl h⟩
theorem bK [dG P] (i:Nat) {T k:TypeId} {H:Nat} {z:Value} {r:TypeDesc} {x y:Operand} {b:Nat} {cs vs:List Value} (E:ev σ x=some (.pointer (some ⟨b,0,none⟩)))
  (G:ev σ y=some (.agg vs.toArray)) (C:vs.all one=true) (q:M[i]? = some (bM b cs k)) (A:dG.tab P T=some ⟨r,vs.length,H,z⟩) (B:Nat.beq vs.length cs.length=true)
  (h:J c n σ (M.set i (bM b vs k)) L (wpList P ops Q rest)):
  J c n σ M L (wpList P ops Q (⟨none,.store T x y,ty,pos,aft,none⟩::rest)):=λa w s t=>by
 refine nZ Z ?_;obtain⟨F,u⟩:=t.res q;have e:vs.length=cs.length:=zA2 B;have f:∀v∈vs,v.oneCell'=true:=λv p=>qG (by simpa using zA5.1 C v p);obtain⟨I,l,o,_,_⟩:=(dG.ok A).info;have m:=run_storeVar_row (P:=P) w b k T cs.toArray vs.toArray u.2 (by simp[l,o]) (by simp[e]) (by simpa using f);have j:(execOp a.eval ⟨none,.store T x y,ty,pos,aft,none⟩).run P w = .ok .skip (w.setRow b vs.toArray):=by
  simp[execOp,s.eval E,s.eval G,Instr.storeAt,Instr.sureAddr,m]
 simp only[Oper.wp,j,Oper.upon];exact h _ _ s (t.fill q)
def aY (P:Program) (f:FuncId) (a:Array Value) (L:List bF) {A:Type} (b:A->Value) (k LO:A->List bF->List bF):Prop:=
 ∀(i:World) (j:Nat->Prop),(∀h∈L,h.p i j)->Calls P f a i λe l=>∃x:A,e = .returned (b x)∧St ⟨i,j,λ_=>False⟩ (k x []) (LO x []) l
def ahl (m:Nat) (a F:Nat->Nat->Prop) (i k:Nat):Prop:=(i<m∧a i k)∨(m<=i∧F (i - m) k)
theorem Own.new {w:World} {M:List bF} {F:Nat->Nat->Prop} {a:World} {b:Nat->Prop} (h:Own ⟨a,b,λ_=>False⟩ w M F) {i k:Nat} (e:F i k):a.heap.size<=k:=by
 rcases(h.rng i k e).1 with h|h
 ·exact h
 ·exact h.elim
theorem St.call {w w':World} {v C:List bF} {F:Nat->Nat->Prop} (B:Dk c.O c.w0 w) (q:Own c w M F) (H:∀f∈L,f.p w (Gs c F))
  (t:St ⟨w,Gs c F,λ_=>False⟩ v C w'):St c (v++M) (C++L) w':=by
 obtain⟨o,G,a,y⟩:=t;have o:=o.ext;have E:=o.block;refine⟨B.trans o,ahl v.length G F,⟨?_,?_,?_⟩,λf hf=> ?_⟩
 ·intro i m x;by_cases e:i<v.length
  ·rw[zAd e]at x;exact bF.same (a.res i m x) (λk b=> .inl ⟨e,b⟩) (λ_ _ _=>rfl)
  ·rw[zAb (by omega)]at x;exact bF.same (q.res _ m x) (λk b=> .inr ⟨by omega,b⟩) (λk _ z=>E k z)
 ·rintro i k (⟨_,b⟩|⟨_,b⟩)
  ·exact⟨.inl (zB4 B.size (a.new b)),(a.rng i k b).2⟩
  ·exact⟨(q.rng _ k b).1,zAo (q.rng _ k b).2 o.size⟩
 ·rintro i j k (⟨e,r⟩|⟨e,r⟩) (⟨I,s⟩|⟨I,s⟩)
  ·exact a.dis i j k r s
  ·have:=a.new r;have:=(q.rng _ k s).2;simp only at *;omega
  ·have:=a.new s;have:=(q.rng _ k r).2;simp only at *;omega
  ·have:=q.dis _ _ k r s;omega
 ·rcases List.mem_append.1 hf with hf|hf
  ·refine bF.same (y f hf) (λk b=> ?_) (λ_ _ _=>rfl);obtain⟨u,A⟩:=b;have l:Gs c F k∨w.heap.size<=k:=by
    rcases u with h|h|h
    ·exact .inl h
    ·exact .inr h
    ·exact h.elim
   refine⟨?_,?_⟩
   ·rcases l with h|h
    ·exact h.1
    ·exact .inr (.inl (zB4 B.size h))
   ·rintro i (⟨_,e⟩|⟨_,e⟩)
    ·exact A i e
    ·rcases l with h|h
     ·exact h.2 _ e
     ·have:=(q.rng _ k e).2;omega
  ·refine f.mono (H f hf) λk b z=>⟨⟨b.1,?_⟩,E k z⟩
   rintro i (⟨_,e⟩|⟨_,e⟩)
   ·have:=a.new e;omega
   ·exact b.2 _ e
theorem evs {e:List Operand} {b:List Value} {a:Act} (s:Gt n σ a) (h:e.map (ev σ)=b.map some):e.map a.eval=b:=by
 induction e generalizing b with
 |nil=>cases b<;>simp_all
 |cons x e f=>
  cases b with
  |nil=>simp at h
  |cons v b=>simp at h;simp[s.eval h.1,f h.2]
def aS (P:Program) (f:FuncId):Prop:=∀args w,(callFunc f args).run P w = .ok (.enter f args) w
def Qz {A:Type} (c:xD) (a:A->Value) (f b:A->List bF->List bF) (e:Ending) (w:World):Prop:=∃x:A,e = .returned (a x)∧St c (f x []) (b x []) w
def Aw:Nat->List Value->Fr
 |_,[]=>[]
 |k,v::vs=>(k,v)::Aw (k+1) vs
theorem Fv (a:List Value):∀k t v,lk (Aw k a) t=some v->k<=t∧a[t - k]? = some v:=by
 induction a with
 |nil=>intro k t v h;simp[Aw,lk]at h
 | cons u a ih =>
  intro k t v h;simp only[Aw,lk]at h;by_cases e:t=k
  ·subst e;simp at h;subst h;simp
  ·rw[oK e]at h;obtain⟨f,b⟩:=ih (k+1) t v h;refine⟨by omega,?_⟩
   have:t - k=(t - (k+1))+1:=by omega
   rw[this,List.getElem?_cons_succ];exact b
theorem aY.of {A:Type} {b:A->Value} {u s:A->List bF->List bF} {f:FuncId} {e:Func} {a:Code} {vs:List Value} {m:Nat}
  (p:P.funcs[f]? = some e) (y:e.body=some a) (C:e.ntmps=m) (B:Nat.ble vs.length m=true)
  (h:∀c:xD,J c ⟨m,[]⟩ (Aw 0 vs) [] L (a.wpr none P (iX P e (Qz c b u s)))):aY P f vs.toArray L b u s:=λF w x=>by
 have q:vs.length<=m:=by simpa using B
 refine vA p y (h ⟨F,w,λ_=>False⟩ _ _ ⟨rfl,by simp[C,q],?_⟩ ⟨Dk.refl _,λ_ _=>False,⟨?_,?_,?_⟩,?_⟩)
 ·intro t v E;obtain⟨_,l⟩:=Fv vs 0 t v E;rw[Nat.sub_zero]at l;have r:t<vs.length:=by
   rcases zAp t vs.length with o|o
   ·exact o
   ·rw[zAr o]at l;cases l
  rw[zB7 (by simpa using r)];simpa using l
 ·intro i m h;simp at h
 ·intro i k h;exact h.elim
 ·intro i j k h;exact h.elim
 ·intro f p;exact bF.same (x f p) (λk z=>⟨.inl z,λ_ h=>h⟩) (λ_ _ _=>rfl)
theorem aet {A:Type} {b:A->Value} {j i:A->List bF->List bF} {k:Func} (x:A) (e:Exit) (o:e = .ret∨e = .normal)
  (p:∀a w,Gt n σ a->St c M L w->(results k a.tmps).run P w = .ok (b x) w) (m:a_ M (j x [])) (l:∀f∈i x [],f∈L) (h:n.ds=[]:=by rfl):
  J c n σ M L (iX P k (Qz c b j i) e):=λa w s t=>
 body_end o (s.defers.trans h) (p a w s t) ⟨x,rfl,t.weak m l⟩
theorem aam [dG P] {T h:TypeId} {o:Nat} {z:Value} {e:TypeDesc} {w:World} {b:Nat} {a:List Value} {F:Nat->Prop} (i:(bM b a h).p w F)
  (f:dG.tab P T=some ⟨e,a.length,o,z⟩) (k:zB e=true):(loadVar T ⟨b,0,none⟩).run P w = .ok (.agg a.toArray) w:=by
 have l:=run_loadCells_list (P:=P) w ⟨b,0,none⟩ a (λj v m=>by rw[fR,Nat.zero_add];exact bM.cell i m);simp[loadVar,(dG.ok f).run_agg w,k,(dG.ok f).run_size w,l]
end
end Go.Sx
namespace Go.Sx
open Go.Proofs
theorem afJ {P:Program} {T:Nat} {i:TypeInfo} (h:P.types[T]? = some i):P.info? T=some i:=by
 unfold Tables.info?;rw[if_pos (zAa.1 h).1];exact h
noncomputable def zOf (i:TypeInfo):Value:=i.zero.getD (.tuple #[])
def bI (d:TypeDesc) (s b:Nat) (i:TypeInfo):Ty:=⟨d,s,b,zOf i⟩
def y2:=bI Tryz.t2.desc 1 8 Tryz.t2
def y3:=bI Tryz.t2.desc 1 8 Tryz.t3
def y4:=bI Tryz.t4.desc 1 1 Tryz.t4
def y5:=bI Tryz.t5.desc 1 1 Tryz.t5
def y6:=bI Tryz.t5.desc 1 1 Tryz.t6
def y7:=bI Tryz.t7.desc 4 24 Tryz.t7
def y8:=bI Tryz.t7.desc 4 24 Tryz.t8
def y9:=bI Tryz.t9.desc 1 16 Tryz.t9
def y10:=bI Tryz.t9.desc 1 16 Tryz.t10
def y11:=bI Tryz.t9.desc 1 16 Tryz.t11
def y12:=bI Tryz.t12.desc 1 8 Tryz.t12
def y13:=bI Tryz.t13.desc 2 24 Tryz.t13
def y14:=bI Tryz.t13.desc 2 24 Tryz.t14
def y15:=bI Tryz.t15.desc 1 8 Tryz.t15
def y16:=bI Tryz.t16.desc 1 8 Tryz.t16
def y17:=bI Tryz.t17.desc 1 8 Tryz.t17
def y18:=bI Tryz.t18.desc 1 8 Tryz.t18
def y19:=bI Tryz.t18.desc 1 8 Tryz.t19
def y20:=bI Tryz.t20.desc 1 16 Tryz.t20
def y21:=bI Tryz.t21.desc 1 4 Tryz.t21
def y22:=bI Tryz.t22.desc 1 24 Tryz.t22
def y23:=bI Tryz.t23.desc 6 88 Tryz.t23
def y24:=bI Tryz.t23.desc 6 88 Tryz.t24
def y25:=bI Tryz.t25.desc 1 24 Tryz.t25
def y26:=bI Tryz.t26.desc 1 8 Tryz.t26
def y27:=bI Tryz.t27.desc 1 24 Tryz.t27
def y28:=bI Tryz.t28.desc 2 48 Tryz.t28
def y29:=bI Tryz.t28.desc 2 48 Tryz.t29
def y30:=bI Tryz.t30.desc 1 8 Tryz.t30
def y31:=bI Tryz.t31.desc 1 24 Tryz.t31
def y32:=bI Tryz.t32.desc 1 24 Tryz.t32
def y33:=bI Tryz.t33.desc 1 4 Tryz.t33
def y34:=bI Tryz.t34.desc 5 40 Tryz.t34
def y35:=bI Tryz.t34.desc 5 40 Tryz.t35
def y36:=bI Tryz.t36.desc 8 112 Tryz.t36
def y37:=bI Tryz.t36.desc 8 112 Tryz.t37
def y38:=bI Tryz.t2.desc 1 8 Tryz.t38
def y40:=bI Tryz.t40.desc 1 8 Tryz.t40
def y41:=bI Tryz.t41.desc 1 24 Tryz.t41
def y42:=bI Tryz.t42.desc 1 24 Tryz.t42
def y43:=bI Tryz.t43.desc 3 64 Tryz.t43
def y44:=bI Tryz.t43.desc 3 64 Tryz.t44
def y45:=bI Tryz.t45.desc 1 8 Tryz.t45
def y46:=bI Tryz.t46.desc 1 8 Tryz.t46
def y47:=bI Tryz.t47.desc 1 8 Tryz.t47
def y48:=bI Tryz.t48.desc 1 8 Tryz.t48
def y49:=bI Tryz.t49.desc 1 8 Tryz.t49
def y50:=bI Tryz.t50.desc 5 32 Tryz.t50
def y51:=bI Tryz.t50.desc 5 32 Tryz.t51
def y52:=bI Tryz.t52.desc 1 8 Tryz.t52
def y53:=bI Tryz.t53.desc 1 8 Tryz.t53
def y54:=bI Tryz.t54.desc 1 8 Tryz.t54
def y56:=bI Tryz.t56.desc 1 8 Tryz.t56
def y57:=bI Tryz.t57.desc 1 8 Tryz.t57
def y58:=bI Tryz.t58.desc 2 16 Tryz.t58
def y59:=bI Tryz.t59.desc 1 24 Tryz.t59
def y60:=bI Tryz.t60.desc 1 8 Tryz.t60
def y61:=bI Tryz.t61.desc 1 8 Tryz.t61
def y62:=bI Tryz.t62.desc 1 8 Tryz.t62
def y63:=bI Tryz.t63.desc 1 8 Tryz.t63
def y64:=bI Tryz.t64.desc 1 8 Tryz.t64
def y65:=bI Tryz.t65.desc 1 8 Tryz.t65
def y66:=bI Tryz.t31.desc 1 24 Tryz.t66
def y67:=bI Tryz.t67.desc 1 8 Tryz.t67
def y68:=bI Tryz.t68.desc 5 56 Tryz.t68
def y69:=bI Tryz.t68.desc 5 56 Tryz.t69
def y70:=bI Tryz.t70.desc 1 8 Tryz.t70
def y71:=bI Tryz.t71.desc 1 8 Tryz.t71
def y73:=bI Tryz.t73.desc 1 8 Tryz.t73
def y74:=bI Tryz.t74.desc 1 8 Tryz.t74
def y75:=bI Tryz.t75.desc 6 56 Tryz.t75
def y76:=bI Tryz.t75.desc 6 56 Tryz.t76
def y77:=bI Tryz.t77.desc 1 8 Tryz.t77
def y78:=bI Tryz.t78.desc 1 8 Tryz.t78
def y79:=bI Tryz.t12.desc 1 8 Tryz.t79
def y80:=bI Tryz.t80.desc 1 8 Tryz.t80
def y81:=bI Tryz.t81.desc 1 8 Tryz.t81
def y82:=bI Tryz.t82.desc 1 8 Tryz.t82
def y83:=bI Tryz.t83.desc 1 8 Tryz.t83
def y84:=bI Tryz.t84.desc 1 8 Tryz.t84
def y85:=bI Tryz.t85.desc 4 32 Tryz.t85
def y87:=bI Tryz.t87.desc 1 8 Tryz.t87
def y88:=bI Tryz.t88.desc 1 8 Tryz.t88
def y89:=bI Tryz.t89.desc 1 8 Tryz.t89
def y90:=bI Tryz.t90.desc 1 8 Tryz.t90
def y91:=bI Tryz.t91.desc 1 8 Tryz.t91
def y92:=bI Tryz.t92.desc 1 8 Tryz.t92
def y93:=bI Tryz.t93.desc 1 8 Tryz.t93
def y94:=bI Tryz.t94.desc 1 8 Tryz.t94
def y95:=bI Tryz.t95.desc 1 8 Tryz.t95
def y96:=bI Tryz.t96.desc 1 24 Tryz.t96
def y98:=bI Tryz.t98.desc 1 8 Tryz.t98
def y99:=bI Tryz.t99.desc 1 8 Tryz.t99
def aji:=bI Tryz.t100.desc 1 24 Tryz.t100
def ajj:=bI Tryz.t101.desc 3 64 Tryz.t101
def ajk:=bI Tryz.t101.desc 3 64 Tryz.t102
def ajl:=bI Tryz.t103.desc 7 152 Tryz.t103
def ajm:=bI Tryz.t103.desc 7 152 Tryz.t104
def ajn:=bI Tryz.t106.desc 1 8 Tryz.t106
def ajo:=bI Tryz.t107.desc 1 8 Tryz.t107
def ajp:=bI Tryz.t108.desc 1 8 Tryz.t108
def ajq:=bI Tryz.t109.desc 1 8 Tryz.t109
def ajr:=bI Tryz.t110.desc 1 8 Tryz.t110
def ajs:=bI Tryz.t111.desc 1 8 Tryz.t111
def ajt:=bI Tryz.t111.desc 1 8 Tryz.t112
def aju:=bI Tryz.t113.desc 1 8 Tryz.t113
def ajv:=bI Tryz.t114.desc 2 16 Tryz.t114
def ajw:=bI Tryz.t114.desc 2 16 Tryz.t115
def ajx:=bI Tryz.t116.desc 1 8 Tryz.t116
def ajy:=bI Tryz.t117.desc 1 8 Tryz.t117
def ajz:=bI Tryz.t118.desc 1 8 Tryz.t118
def ajA:=bI Tryz.t120.desc 1 8 Tryz.t120
def ajB:=bI Tryz.t121.desc 1 8 Tryz.t121
def ajC:=bI Tryz.t122.desc 1 8 Tryz.t122
def ajD:=bI Tryz.t123.desc 1 8 Tryz.t123
def ajE:=bI Tryz.t124.desc 1 8 Tryz.t124
def ajF:=bI Tryz.t125.desc 1 8 Tryz.t125
def ajG:=bI Tryz.t126.desc 1 8 Tryz.t126
def ajH:=bI Tryz.t127.desc 1 8 Tryz.t127
def ajI:=bI Tryz.t128.desc 1 8 Tryz.t128
def ajJ:=bI Tryz.t129.desc 1 8 Tryz.t129
def ajK:=bI Tryz.t130.desc 1 8 Tryz.t130
def ajL:=bI Tryz.t131.desc 1 8 Tryz.t131
def ajM:=bI Tryz.t132.desc 1 8 Tryz.t132
def ajN:=bI Tryz.t133.desc 1 8 Tryz.t133
def ajO:=bI Tryz.t134.desc 1 8 Tryz.t134
def ajP:=bI Tryz.t135.desc 1 8 Tryz.t135
def ajQ:=bI Tryz.t136.desc 1 8 Tryz.t136
def ajR:=bI Tryz.t137.desc 1 8 Tryz.t137
def ajS:=bI Tryz.t138.desc 4 96 Tryz.t138
def ajT:=bI Tryz.t138.desc 4 96 Tryz.t139
def ajU:=bI Tryz.t140.desc 1 8 Tryz.t140
def ajV:=bI Tryz.t141.desc 1 8 Tryz.t141
def ajW:=bI Tryz.t142.desc 1 8 Tryz.t142
def ajX:=bI Tryz.t143.desc 1 8 Tryz.t143
def ajY:=bI Tryz.t144.desc 1 8 Tryz.t144
def ajZ:=bI Tryz.t145.desc 1 8 Tryz.t145
def aj_:=bI Tryz.t146.desc 1 24 Tryz.t146
def aka:=bI Tryz.t147.desc 1 8 Tryz.t147
def akb:=bI Tryz.t148.desc 1 8 Tryz.t148
def akc:=bI Tryz.t149.desc 1 8 Tryz.t149
def akd:=bI Tryz.t150.desc 5 96 Tryz.t150
def ake:=bI Tryz.t150.desc 5 96 Tryz.t151
def akf:=bI Tryz.t152.desc 1 8 Tryz.t152
def akg:=bI Tryz.t153.desc 1 8 Tryz.t153
def akh:=bI Tryz.t155.desc 1 8 Tryz.t155
def aki:=bI Tryz.t156.desc 1 8 Tryz.t156
def akj:=bI Tryz.t158.desc 1 8 Tryz.t158
def akk:=bI Tryz.t159.desc 1 8 Tryz.t159
def akl:=bI Tryz.t159.desc 1 8 Tryz.t160
def akm:=bI Tryz.t161.desc 1 8 Tryz.t161
def akn:=bI Tryz.t162.desc 1 8 Tryz.t162
def ako:=bI Tryz.t163.desc 4 32 Tryz.t163
def akp:=bI Tryz.t163.desc 4 32 Tryz.t164
def akq:=bI Tryz.t166.desc 1 8 Tryz.t166
def akr:=bI Tryz.t167.desc 2 16 Tryz.t167
def aks:=bI Tryz.t167.desc 2 16 Tryz.t168
def akt:=bI Tryz.t170.desc 1 8 Tryz.t170
def aku:=bI Tryz.t171.desc 1 8 Tryz.t171
def akv:=bI Tryz.t172.desc 1 8 Tryz.t172
def akw:=bI Tryz.t173.desc 1 8 Tryz.t173
def akx:=bI Tryz.t174.desc 1 8 Tryz.t174
def aky:=bI Tryz.t175.desc 1 8 Tryz.t175
def akz:=bI Tryz.t176.desc 1 8 Tryz.t176
def akA:=bI Tryz.t177.desc 1 24 Tryz.t177
def akB:=bI Tryz.t178.desc 1 24 Tryz.t178
def akC:=bI Tryz.t179.desc 3 64 Tryz.t179
def akD:=bI Tryz.t179.desc 3 64 Tryz.t180
def akE:=bI Tryz.t181.desc 1 8 Tryz.t181
def akF:=bI Tryz.t182.desc 1 8 Tryz.t182
def akG:=bI Tryz.t183.desc 1 8 Tryz.t183
def akH:=bI Tryz.t184.desc 1 8 Tryz.t184
def akI:=bI Tryz.t185.desc 1 8 Tryz.t185
def akJ:=bI Tryz.t186.desc 1 8 Tryz.t186
def akK:=bI Tryz.t187.desc 1 8 Tryz.t187
def akL:=bI Tryz.t188.desc 256 256 Tryz.t188
def akM:=bI Tryz.t189.desc 1 8 Tryz.t189
def akN:=bI Tryz.t191.desc 1 8 Tryz.t191
def akO:=bI Tryz.t192.desc 1 8 Tryz.t192
def akP:=bI Tryz.t193.desc 1 8 Tryz.t193
def akQ:=bI Tryz.t194.desc 1 8 Tryz.t194
def akR:=bI Tryz.t195.desc 7 144 Tryz.t195
def akS:=bI Tryz.t195.desc 7 144 Tryz.t196
def akT:=bI Tryz.t197.desc 1 8 Tryz.t197
def akU:=bI Tryz.t198.desc 1 8 Tryz.t198
def akV:=bI Tryz.t199.desc 1 8 Tryz.t199
def akW:=bI Tryz.t200.desc 1 8 Tryz.t200
def akX:=bI Tryz.t201.desc 1 8 Tryz.t201
def akY:=bI Tryz.t202.desc 1 8 Tryz.t202
def akZ:=bI Tryz.t203.desc 1 8 Tryz.t203
def ak_:=bI Tryz.t204.desc 1 8 Tryz.t204
def ala:=bI Tryz.t205.desc 1 8 Tryz.t205
def alb:=bI Tryz.t206.desc 1 8 Tryz.t206
def alc:=bI Tryz.t207.desc 1 8 Tryz.t207
def ald:=bI Tryz.t208.desc 1 8 Tryz.t208
def ale:=bI Tryz.t209.desc 1 8 Tryz.t209
def alf:=bI Tryz.t210.desc 1 8 Tryz.t210
def alg:=bI Tryz.t211.desc 1 8 Tryz.t211
def alh:=bI Tryz.t212.desc 1 8 Tryz.t212
def ali:=bI Tryz.t213.desc 1 8 Tryz.t213
def alj:=bI Tryz.t214.desc 2 32 Tryz.t214
def alk:=bI Tryz.t214.desc 2 32 Tryz.t215
def alm:=bI Tryz.t216.desc 1 8 Tryz.t216
def aln:=bI Tryz.t217.desc 1 8 Tryz.t217
def alo:=bI Tryz.t218.desc 1 8 Tryz.t218
def alp:=bI Tryz.t219.desc 1 8 Tryz.t219
def alq:=bI Tryz.t220.desc 1 8 Tryz.t220
def alr:=bI Tryz.t221.desc 2 16 Tryz.t221
def als:=bI Tryz.t221.desc 2 16 Tryz.t222
def alt:=bI Tryz.t223.desc 1 24 Tryz.t223
def alu:=bI Tryz.t224.desc 1 8 Tryz.t224
def alv:=bI Tryz.t225.desc 1 8 Tryz.t225
def alw:=bI Tryz.t226.desc 1 8 Tryz.t226
def alx:=bI Tryz.t227.desc 32 32 Tryz.t227
def aly:=bI Tryz.t228.desc 1 8 Tryz.t228
def alz:=bI Tryz.t229.desc 1 8 Tryz.t229
def alA:=bI Tryz.t230.desc 1 8 Tryz.t230
def alB:=bI Tryz.t231.desc 1 8 Tryz.t231
def alC:=bI Tryz.t232.desc 1 8 Tryz.t232
def alD:=bI Tryz.t233.desc 1 8 Tryz.t233
def alE:=bI Tryz.t234.desc 2 16 Tryz.t234
def alF:=bI Tryz.t234.desc 2 16 Tryz.t235
def alG:=bI Tryz.t236.desc 1 8 Tryz.t236
def alH:=bI Tryz.t237.desc 1 8 Tryz.t237
def alI:=bI Tryz.t238.desc 2 48 Tryz.t238
def alJ:=bI Tryz.t238.desc 2 48 Tryz.t239
def alK:=bI Tryz.t240.desc 1 8 Tryz.t240
def alL:=bI Tryz.t241.desc 4 64 Tryz.t241
def alM:=bI Tryz.t241.desc 4 64 Tryz.t242
def alN:=bI Tryz.t243.desc 1 8 Tryz.t243
def alO:=bI Tryz.t244.desc 1 24 Tryz.t244
def alP:=bI Tryz.t245.desc 1 8 Tryz.t245
def alQ:=bI Tryz.t246.desc 1 8 Tryz.t246
def alR:=bI Tryz.t247.desc 1 8 Tryz.t247
def alS:=bI Tryz.t248.desc 3 24 Tryz.t248
def alT:=bI Tryz.t249.desc 1 8 Tryz.t249
def alU:=bI Tryz.t250.desc 1 8 Tryz.t250
def alV:=bI Tryz.t251.desc 1 8 Tryz.t251
def alW:=bI Tryz.t252.desc 1 8 Tryz.t252
def alX:=bI Tryz.t253.desc 1 8 Tryz.t253
def alY:=bI Tryz.t254.desc 1 8 Tryz.t254
def alZ:=bI Tryz.t255.desc 1 8 Tryz.t255
def al_:=bI Tryz.t256.desc 1 8 Tryz.t256
def ama:=bI Tryz.t257.desc 24 192 Tryz.t257
def amb:=bI Tryz.t258.desc 1 8 Tryz.t258
def amc:=bI Tryz.t259.desc 1 8 Tryz.t259
def amd:=bI Tryz.t260.desc 1 8 Tryz.t260
def ame:=bI Tryz.t261.desc 1 8 Tryz.t261
def amf:=bI Tryz.t262.desc 4 40 Tryz.t262
def amg:=bI Tryz.t262.desc 4 40 Tryz.t263
def amh:=bI Tryz.t264.desc 0 0 Tryz.t264
def ami:=bI Tryz.t265.desc 0 0 Tryz.t265
def amj:=bI Tryz.t265.desc 0 0 Tryz.t266
def amk:=bI Tryz.t5.desc 1 1 Tryz.t267
def aml:=bI Tryz.t5.desc 1 1 Tryz.t268
def amm:=bI Tryz.t269.desc 1 8 Tryz.t269
def amn:=bI Tryz.t270.desc 1 8 Tryz.t270
def amo:=bI Tryz.t21.desc 1 4 Tryz.t271
def amq:=bI Tryz.t21.desc 1 4 Tryz.t272
def amr:=bI Tryz.t273.desc 11 48 Tryz.t273
def ams:=bI Tryz.t273.desc 11 48 Tryz.t274
noncomputable def tL {a:Type} (T i:Nat) (t:a):Option a:=bif Nat.beq T i then some t else none
noncomputable def tN {c:Type} (T i:Nat) (a b:Option c):Option c:=bif Nat.blt T i then a else b
def wC (T:Nat):Option Ty:=(tN T 139 (tN T 69 (tN T 34 (tN T 18 (tN T 10 (tN T 6 (tN T 4 (tN T 3 (tL T 2 y2) (tL T 3 y3)) (tN T 5 (tL T 4 y4) (tL T 5 y5))) (tN T 8 (tN T 7 (tL T 6 y6) (tL T 7 y7)) (tN T 9 (tL T 8 y8) (tL T 9 y9)))) (tN T 14 (tN T 12 (tN T 11 (tL T 10 y10) (tL T 11 y11)) (tN T 13 (tL T 12 y12) (tL T 13 y13))) (tN T 16 (tN T 15 (tL T 14 y14) (tL T 15 y15)) (tN T 17 (tL T 16 y16) (tL T 17 y17))))) (tN T 26 (tN T 22 (tN T 20 (tN T 19 (tL T 18 y18) (tL T 19 y19)) (tN T 21 (tL T 20 y20) (tL T 21 y21))) (tN T 24 (tN T 23 (tL T 22 y22) (tL T 23 y23)) (tN T 25 (tL T 24 y24) (tL T 25 y25)))) (tN T 30 (tN T 28 (tN T 27 (tL T 26 y26) (tL T 27 y27)) (tN T 29 (tL T 28 y28) (tL T 29 y29))) (tN T 32 (tN T 31 (tL T 30 y30) (tL T 31 y31)) (tN T 33 (tL T 32 y32) (tL T 33 y33)))))) (tN T 51 (tN T 43 (tN T 38 (tN T 36 (tN T 35 (tL T 34 y34) (tL T 35 y35)) (tN T 37 (tL T 36 y36) (tL T 37 y37))) (tN T 41 (tN T 40 (tL T 38 y38) (tL T 40 y40)) (tN T 42 (tL T 41 y41) (tL T 42 y42)))) (tN T 47 (tN T 45 (tN T 44 (tL T 43 y43) (tL T 44 y44)) (tN T 46 (tL T 45 y45) (tL T 46 y46))) (tN T 49 (tN T 48 (tL T 47 y47) (tL T 48 y48)) (tN T 50 (tL T 49 y49) (tL T 50 y50))))) (tN T 60 (tN T 56 (tN T 53 (tN T 52 (tL T 51 y51) (tL T 52 y52)) (tN T 54 (tL T 53 y53) (tL T 54 y54))) (tN T 58 (tN T 57 (tL T 56 y56) (tL T 57 y57)) (tN T 59 (tL T 58 y58) (tL T 59 y59)))) (tN T 64 (tN T 62 (tN T 61 (tL T 60 y60) (tL T 61 y61)) (tN T 63 (tL T 62 y62) (tL T 63 y63))) (tN T 66 (tN T 65 (tL T 64 y64) (tL T 65 y65)) (tN T 67 (tL T 66 y66) (tN T 68 (tL T 67 y67) (tL T 68 y68)))))))) (tN T 104 (tN T 87 (tN T 78 (tN T 74 (tN T 71 (tN T 70 (tL T 69 y69) (tL T 70 y70)) (tN T 73 (tL T 71 y71) (tL T 73 y73))) (tN T 76 (tN T 75 (tL T 74 y74) (tL T 75 y75)) (tN T 77 (tL T 76 y76) (tL T 77 y77)))) (tN T 82 (tN T 80 (tN T 79 (tL T 78 y78) (tL T 79 y79)) (tN T 81 (tL T 80 y80) (tL T 81 y81))) (tN T 84 (tN T 83 (tL T 82 y82) (tL T 83 y83)) (tN T 85 (tL T 84 y84) (tL T 85 y85))))) (tN T 95 (tN T 91 (tN T 89 (tN T 88 (tL T 87 y87) (tL T 88 y88)) (tN T 90 (tL T 89 y89) (tL T 90 y90))) (tN T 93 (tN T 92 (tL T 91 y91) (tL T 92 y92)) (tN T 94 (tL T 93 y93) (tL T 94 y94)))) (tN T 100 (tN T 98 (tN T 96 (tL T 95 y95) (tL T 96 y96)) (tN T 99 (tL T 98 y98) (tL T 99 y99))) (tN T 102 (tN T 101 (tL T 100 aji) (tL T 101 ajj)) (tN T 103 (tL T 102 ajk) (tL T 103 ajl)))))) (tN T 122 (tN T 113 (tN T 109 (tN T 107 (tN T 106 (tL T 104 ajm) (tL T 106 ajn)) (tN T 108 (tL T 107 ajo) (tL T 108 ajp))) (tN T 111 (tN T 110 (tL T 109 ajq) (tL T 110 ajr)) (tN T 112 (tL T 111 ajs) (tL T 112 ajt)))) (tN T 117 (tN T 115 (tN T 114 (tL T 113 aju) (tL T 114 ajv)) (tN T 116 (tL T 115 ajw) (tL T 116 ajx))) (tN T 120 (tN T 118 (tL T 117 ajy) (tL T 118 ajz)) (tN T 121 (tL T 120 ajA) (tL T 121 ajB))))) (tN T 130 (tN T 126 (tN T 124 (tN T 123 (tL T 122 ajC) (tL T 123 ajD)) (tN T 125 (tL T 124 ajE) (tL T 125 ajF))) (tN T 128 (tN T 127 (tL T 126 ajG) (tL T 127 ajH)) (tN T 129 (tL T 128 ajI) (tL T 129 ajJ)))) (tN T 134 (tN T 132 (tN T 131 (tL T 130 ajK) (tL T 131 ajL)) (tN T 133 (tL T 132 ajM) (tL T 133 ajN))) (tN T 136 (tN T 135 (tL T 134 ajO) (tL T 135 ajP)) (tN T 137 (tL T 136 ajQ) (tN T 138 (tL T 137 ajR) (tL T 138 ajS))))))))) (tN T 209 (tN T 175 (tN T 156 (tN T 147 (tN T 143 (tN T 141 (tN T 140 (tL T 139 ajT) (tL T 140 ajU)) (tN T 142 (tL T 141 ajV) (tL T 142 ajW))) (tN T 145 (tN T 144 (tL T 143 ajX) (tL T 144 ajY)) (tN T 146 (tL T 145 ajZ) (tL T 146 aj_)))) (tN T 151 (tN T 149 (tN T 148 (tL T 147 aka) (tL T 148 akb)) (tN T 150 (tL T 149 akc) (tL T 150 akd))) (tN T 153 (tN T 152 (tL T 151 ake) (tL T 152 akf)) (tN T 155 (tL T 153 akg) (tL T 155 akh))))) (tN T 166 (tN T 161 (tN T 159 (tN T 158 (tL T 156 aki) (tL T 158 akj)) (tN T 160 (tL T 159 akk) (tL T 160 akl))) (tN T 163 (tN T 162 (tL T 161 akm) (tL T 162 akn)) (tN T 164 (tL T 163 ako) (tL T 164 akp)))) (tN T 171 (tN T 168 (tN T 167 (tL T 166 akq) (tL T 167 akr)) (tN T 170 (tL T 168 aks) (tL T 170 akt))) (tN T 173 (tN T 172 (tL T 171 aku) (tL T 172 akv)) (tN T 174 (tL T 173 akw) (tL T 174 akx)))))) (tN T 192 (tN T 183 (tN T 179 (tN T 177 (tN T 176 (tL T 175 aky) (tL T 176 akz)) (tN T 178 (tL T 177 akA) (tL T 178 akB))) (tN T 181 (tN T 180 (tL T 179 akC) (tL T 180 akD)) (tN T 182 (tL T 181 akE) (tL T 182 akF)))) (tN T 187 (tN T 185 (tN T 184 (tL T 183 akG) (tL T 184 akH)) (tN T 186 (tL T 185 akI) (tL T 186 akJ))) (tN T 189 (tN T 188 (tL T 187 akK) (tL T 188 akL)) (tN T 191 (tL T 189 akM) (tL T 191 akN))))) (tN T 200 (tN T 196 (tN T 194 (tN T 193 (tL T 192 akO) (tL T 193 akP)) (tN T 195 (tL T 194 akQ) (tL T 195 akR))) (tN T 198 (tN T 197 (tL T 196 akS) (tL T 197 akT)) (tN T 199 (tL T 198 akU) (tL T 199 akV)))) (tN T 204 (tN T 202 (tN T 201 (tL T 200 akW) (tL T 201 akX)) (tN T 203 (tL T 202 akY) (tL T 203 akZ))) (tN T 206 (tN T 205 (tL T 204 ak_) (tL T 205 ala)) (tN T 207 (tL T 206 alb) (tN T 208 (tL T 207 alc) (tL T 208 ald)))))))) (tN T 242 (tN T 225 (tN T 217 (tN T 213 (tN T 211 (tN T 210 (tL T 209 ale) (tL T 210 alf)) (tN T 212 (tL T 211 alg) (tL T 212 alh))) (tN T 215 (tN T 214 (tL T 213 ali) (tL T 214 alj)) (tN T 216 (tL T 215 alk) (tL T 216 alm)))) (tN T 221 (tN T 219 (tN T 218 (tL T 217 aln) (tL T 218 alo)) (tN T 220 (tL T 219 alp) (tL T 220 alq))) (tN T 223 (tN T 222 (tL T 221 alr) (tL T 222 als)) (tN T 224 (tL T 223 alt) (tL T 224 alu))))) (tN T 233 (tN T 229 (tN T 227 (tN T 226 (tL T 225 alv) (tL T 226 alw)) (tN T 228 (tL T 227 alx) (tL T 228 aly))) (tN T 231 (tN T 230 (tL T 229 alz) (tL T 230 alA)) (tN T 232 (tL T 231 alB) (tL T 232 alC)))) (tN T 237 (tN T 235 (tN T 234 (tL T 233 alD) (tL T 234 alE)) (tN T 236 (tL T 235 alF) (tL T 236 alG))) (tN T 239 (tN T 238 (tL T 237 alH) (tL T 238 alI)) (tN T 240 (tL T 239 alJ) (tN T 241 (tL T 240 alK) (tL T 241 alL))))))) (tN T 258 (tN T 250 (tN T 246 (tN T 244 (tN T 243 (tL T 242 alM) (tL T 243 alN)) (tN T 245 (tL T 244 alO) (tL T 245 alP))) (tN T 248 (tN T 247 (tL T 246 alQ) (tL T 247 alR)) (tN T 249 (tL T 248 alS) (tL T 249 alT)))) (tN T 254 (tN T 252 (tN T 251 (tL T 250 alU) (tL T 251 alV)) (tN T 253 (tL T 252 alW) (tL T 253 alX))) (tN T 256 (tN T 255 (tL T 254 alY) (tL T 255 alZ)) (tN T 257 (tL T 256 al_) (tL T 257 ama))))) (tN T 266 (tN T 262 (tN T 260 (tN T 259 (tL T 258 amb) (tL T 259 amc)) (tN T 261 (tL T 260 amd) (tL T 261 ame))) (tN T 264 (tN T 263 (tL T 262 amf) (tL T 263 amg)) (tN T 265 (tL T 264 amh) (tL T 265 ami)))) (tN T 270 (tN T 268 (tN T 267 (tL T 266 amj) (tL T 267 amk)) (tN T 269 (tL T 268 aml) (tL T 269 amm))) (tN T 272 (tN T 271 (tL T 270 amn) (tL T 271 amo)) (tN T 273 (tL T 272 amq) (tN T 274 (tL T 273 amr) (tL T 274 ams))))))))))
theorem c_ {T i s b:Nat} {u:TypeDesc} {I:TypeInfo} {d:Ty} (h:Tryz.prog.underlying i=some u) (f:Tryz.prog.types[i]? = some I) (g:I.size=s:=by rfl) (c:I.bytes=b:=by rfl) (j:I.zero=some (zOf I):=by rfl):tL T i (bI u s b I)=some d->uB Tryz.prog T d:=by
 intro e;unfold tL at e;cases a:Nat.beq T i with
 |true=>rw[a]at e;cases e;rw[zA2 a];exact⟨h,I,afJ f,g,c,j⟩
 |false=>rw[a]at e;cases e
theorem dC {T i:Nat} {x y:Option Ty} {d:Ty} (a:x=some d->uB Tryz.prog T d) (b:y=some d->uB Tryz.prog T d):tN T i x y=some d->uB Tryz.prog T d:=by
 unfold tN;cases Nat.blt T i
 ·exact b
 ·exact a
theorem Sy {T:Nat} {d:Ty}:wC T=some d->uB Tryz.prog T d:=
 (dC (dC (dC (dC (dC (dC (dC (dC (c_ Tryz.underlying2 Tryz.type2) (c_ Tryz.underlying3 Tryz.type3)) (dC (c_ Tryz.underlying4 Tryz.type4) (c_ Tryz.underlying5 Tryz.type5))) (dC (dC (c_ Tryz.underlying6 Tryz.type6) (c_ Tryz.underlying7 Tryz.type7)) (dC (c_ Tryz.underlying8 Tryz.type8) (c_ Tryz.underlying9 Tryz.type9)))) (dC (dC (dC (c_ Tryz.underlying10 Tryz.type10) (c_ Tryz.underlying11 Tryz.type11)) (dC (c_ Tryz.underlying12 Tryz.type12) (c_ Tryz.underlying13 Tryz.type13))) (dC (dC (c_ Tryz.underlying14 Tryz.type14) (c_ Tryz.underlying15 Tryz.type15)) (dC (c_ Tryz.underlying16 Tryz.type16) (c_ Tryz.underlying17 Tryz.type17))))) (dC (dC (dC (dC (c_ Tryz.underlying18 Tryz.type18) (c_ Tryz.underlying19 Tryz.type19)) (dC (c_ Tryz.underlying20 Tryz.type20) (c_ Tryz.underlying21 Tryz.type21))) (dC (dC (c_ Tryz.underlying22 Tryz.type22) (c_ Tryz.underlying23 Tryz.type23)) (dC (c_ Tryz.underlying24 Tryz.type24) (c_ Tryz.underlying25 Tryz.type25)))) (dC (dC (dC (c_ Tryz.underlying26 Tryz.type26) (c_ Tryz.underlying27 Tryz.type27)) (dC (c_ Tryz.underlying28 Tryz.type28) (c_ Tryz.underlying29 Tryz.type29))) (dC (dC (c_ Tryz.underlying30 Tryz.type30) (c_ Tryz.underlying31 Tryz.type31)) (dC (c_ Tryz.underlying32 Tryz.type32) (c_ Tryz.underlying33 Tryz.type33)))))) (dC (dC (dC (dC (dC (c_ Tryz.underlying34 Tryz.type34) (c_ Tryz.underlying35 Tryz.type35)) (dC (c_ Tryz.underlying36 Tryz.type36) (c_ Tryz.underlying37 Tryz.type37))) (dC (dC (c_ Tryz.underlying38 Tryz.type38) (c_ Tryz.underlying40 Tryz.type40)) (dC (c_ Tryz.underlying41 Tryz.type41) (c_ Tryz.underlying42 Tryz.type42)))) (dC (dC (dC (c_ Tryz.underlying43 Tryz.type43) (c_ Tryz.underlying44 Tryz.type44)) (dC (c_ Tryz.underlying45 Tryz.type45) (c_ Tryz.underlying46 Tryz.type46))) (dC (dC (c_ Tryz.underlying47 Tryz.type47) (c_ Tryz.underlying48 Tryz.type48)) (dC (c_ Tryz.underlying49 Tryz.type49) (c_ Tryz.underlying50 Tryz.type50))))) (dC (dC (dC (dC (c_ Tryz.underlying51 Tryz.type51) (c_ Tryz.underlying52 Tryz.type52)) (dC (c_ Tryz.underlying53 Tryz.type53) (c_ Tryz.underlying54 Tryz.type54))) (dC (dC (c_ Tryz.underlying56 Tryz.type56) (c_ Tryz.underlying57 Tryz.type57)) (dC (c_ Tryz.underlying58 Tryz.type58) (c_ Tryz.underlying59 Tryz.type59)))) (dC (dC (dC (c_ Tryz.underlying60 Tryz.type60) (c_ Tryz.underlying61 Tryz.type61)) (dC (c_ Tryz.underlying62 Tryz.type62) (c_ Tryz.underlying63 Tryz.type63))) (dC (dC (c_ Tryz.underlying64 Tryz.type64) (c_ Tryz.underlying65 Tryz.type65)) (dC (c_ Tryz.underlying66 Tryz.type66) (dC (c_ Tryz.underlying67 Tryz.type67) (c_ Tryz.underlying68 Tryz.type68)))))))) (dC (dC (dC (dC (dC (dC (c_ Tryz.underlying69 Tryz.type69) (c_ Tryz.underlying70 Tryz.type70)) (dC (c_ Tryz.underlying71 Tryz.type71) (c_ Tryz.underlying73 Tryz.type73))) (dC (dC (c_ Tryz.underlying74 Tryz.type74) (c_ Tryz.underlying75 Tryz.type75)) (dC (c_ Tryz.underlying76 Tryz.type76) (c_ Tryz.underlying77 Tryz.type77)))) (dC (dC (dC (c_ Tryz.underlying78 Tryz.type78) (c_ Tryz.underlying79 Tryz.type79)) (dC (c_ Tryz.underlying80 Tryz.type80) (c_ Tryz.underlying81 Tryz.type81))) (dC (dC (c_ Tryz.underlying82 Tryz.type82) (c_ Tryz.underlying83 Tryz.type83)) (dC (c_ Tryz.underlying84 Tryz.type84) (c_ Tryz.underlying85 Tryz.type85))))) (dC (dC (dC (dC (c_ Tryz.underlying87 Tryz.type87) (c_ Tryz.underlying88 Tryz.type88)) (dC (c_ Tryz.underlying89 Tryz.type89) (c_ Tryz.underlying90 Tryz.type90))) (dC (dC (c_ Tryz.underlying91 Tryz.type91) (c_ Tryz.underlying92 Tryz.type92)) (dC (c_ Tryz.underlying93 Tryz.type93) (c_ Tryz.underlying94 Tryz.type94)))) (dC (dC (dC (c_ Tryz.underlying95 Tryz.type95) (c_ Tryz.underlying96 Tryz.type96)) (dC (c_ Tryz.underlying98 Tryz.type98) (c_ Tryz.underlying99 Tryz.type99))) (dC (dC (c_ Tryz.underlying100 Tryz.type100) (c_ Tryz.underlying101 Tryz.type101)) (dC (c_ Tryz.underlying102 Tryz.type102) (c_ Tryz.underlying103 Tryz.type103)))))) (dC (dC (dC (dC (dC (c_ Tryz.underlying104 Tryz.type104) (c_ Tryz.underlying106 Tryz.type106)) (dC (c_ Tryz.underlying107 Tryz.type107) (c_ Tryz.underlying108 Tryz.type108))) (dC (dC (c_ Tryz.underlying109 Tryz.type109) (c_ Tryz.underlying110 Tryz.type110)) (dC (c_ Tryz.underlying111 Tryz.type111) (c_ Tryz.underlying112 Tryz.type112)))) (dC (dC (dC (c_ Tryz.underlying113 Tryz.type113) (c_ Tryz.underlying114 Tryz.type114)) (dC (c_ Tryz.underlying115 Tryz.type115) (c_ Tryz.underlying116 Tryz.type116))) (dC (dC (c_ Tryz.underlying117 Tryz.type117) (c_ Tryz.underlying118 Tryz.type118)) (dC (c_ Tryz.underlying120 Tryz.type120) (c_ Tryz.underlying121 Tryz.type121))))) (dC (dC (dC (dC (c_ Tryz.underlying122 Tryz.type122) (c_ Tryz.underlying123 Tryz.type123)) (dC (c_ Tryz.underlying124 Tryz.type124) (c_ Tryz.underlying125 Tryz.type125))) (dC (dC (c_ Tryz.underlying126 Tryz.type126) (c_ Tryz.underlying127 Tryz.type127)) (dC (c_ Tryz.underlying128 Tryz.type128) (c_ Tryz.underlying129 Tryz.type129)))) (dC (dC (dC (c_ Tryz.underlying130 Tryz.type130) (c_ Tryz.underlying131 Tryz.type131)) (dC (c_ Tryz.underlying132 Tryz.type132) (c_ Tryz.underlying133 Tryz.type133))) (dC (dC (c_ Tryz.underlying134 Tryz.type134) (c_ Tryz.underlying135 Tryz.type135)) (dC (c_ Tryz.underlying136 Tryz.type136) (dC (c_ Tryz.underlying137 Tryz.type137) (c_ Tryz.underlying138 Tryz.type138))))))))) (dC (dC (dC (dC (dC (dC (dC (c_ Tryz.underlying139 Tryz.type139) (c_ Tryz.underlying140 Tryz.type140)) (dC (c_ Tryz.underlying141 Tryz.type141) (c_ Tryz.underlying142 Tryz.type142))) (dC (dC (c_ Tryz.underlying143 Tryz.type143) (c_ Tryz.underlying144 Tryz.type144)) (dC (c_ Tryz.underlying145 Tryz.type145) (c_ Tryz.underlying146 Tryz.type146)))) (dC (dC (dC (c_ Tryz.underlying147 Tryz.type147) (c_ Tryz.underlying148 Tryz.type148)) (dC (c_ Tryz.underlying149 Tryz.type149) (c_ Tryz.underlying150 Tryz.type150))) (dC (dC (c_ Tryz.underlying151 Tryz.type151) (c_ Tryz.underlying152 Tryz.type152)) (dC (c_ Tryz.underlying153 Tryz.type153) (c_ Tryz.underlying155 Tryz.type155))))) (dC (dC (dC (dC (c_ Tryz.underlying156 Tryz.type156) (c_ Tryz.underlying158 Tryz.type158)) (dC (c_ Tryz.underlying159 Tryz.type159) (c_ Tryz.underlying160 Tryz.type160))) (dC (dC (c_ Tryz.underlying161 Tryz.type161) (c_ Tryz.underlying162 Tryz.type162)) (dC (c_ Tryz.underlying163 Tryz.type163) (c_ Tryz.underlying164 Tryz.type164)))) (dC (dC (dC (c_ Tryz.underlying166 Tryz.type166) (c_ Tryz.underlying167 Tryz.type167)) (dC (c_ Tryz.underlying168 Tryz.type168) (c_ Tryz.underlying170 Tryz.type170))) (dC (dC (c_ Tryz.underlying171 Tryz.type171) (c_ Tryz.underlying172 Tryz.type172)) (dC (c_ Tryz.underlying173 Tryz.type173) (c_ Tryz.underlying174 Tryz.type174)))))) (dC (dC (dC (dC (dC (c_ Tryz.underlying175 Tryz.type175) (c_ Tryz.underlying176 Tryz.type176)) (dC (c_ Tryz.underlying177 Tryz.type177) (c_ Tryz.underlying178 Tryz.type178))) (dC (dC (c_ Tryz.underlying179 Tryz.type179) (c_ Tryz.underlying180 Tryz.type180)) (dC (c_ Tryz.underlying181 Tryz.type181) (c_ Tryz.underlying182 Tryz.type182)))) (dC (dC (dC (c_ Tryz.underlying183 Tryz.type183) (c_ Tryz.underlying184 Tryz.type184)) (dC (c_ Tryz.underlying185 Tryz.type185) (c_ Tryz.underlying186 Tryz.type186))) (dC (dC (c_ Tryz.underlying187 Tryz.type187) (c_ Tryz.underlying188 Tryz.type188)) (dC (c_ Tryz.underlying189 Tryz.type189) (c_ Tryz.underlying191 Tryz.type191))))) (dC (dC (dC (dC (c_ Tryz.underlying192 Tryz.type192) (c_ Tryz.underlying193 Tryz.type193)) (dC (c_ Tryz.underlying194 Tryz.type194) (c_ Tryz.underlying195 Tryz.type195))) (dC (dC (c_ Tryz.underlying196 Tryz.type196) (c_ Tryz.underlying197 Tryz.type197)) (dC (c_ Tryz.underlying198 Tryz.type198) (c_ Tryz.underlying199 Tryz.type199)))) (dC (dC (dC (c_ Tryz.underlying200 Tryz.type200) (c_ Tryz.underlying201 Tryz.type201)) (dC (c_ Tryz.underlying202 Tryz.type202) (c_ Tryz.underlying203 Tryz.type203))) (dC (dC (c_ Tryz.underlying204 Tryz.type204) (c_ Tryz.underlying205 Tryz.type205)) (dC (c_ Tryz.underlying206 Tryz.type206) (dC (c_ Tryz.underlying207 Tryz.type207) (c_ Tryz.underlying208 Tryz.type208)))))))) (dC (dC (dC (dC (dC (dC (c_ Tryz.underlying209 Tryz.type209) (c_ Tryz.underlying210 Tryz.type210)) (dC (c_ Tryz.underlying211 Tryz.type211) (c_ Tryz.underlying212 Tryz.type212))) (dC (dC (c_ Tryz.underlying213 Tryz.type213) (c_ Tryz.underlying214 Tryz.type214)) (dC (c_ Tryz.underlying215 Tryz.type215) (c_ Tryz.underlying216 Tryz.type216)))) (dC (dC (dC (c_ Tryz.underlying217 Tryz.type217) (c_ Tryz.underlying218 Tryz.type218)) (dC (c_ Tryz.underlying219 Tryz.type219) (c_ Tryz.underlying220 Tryz.type220))) (dC (dC (c_ Tryz.underlying221 Tryz.type221) (c_ Tryz.underlying222 Tryz.type222)) (dC (c_ Tryz.underlying223 Tryz.type223) (c_ Tryz.underlying224 Tryz.type224))))) (dC (dC (dC (dC (c_ Tryz.underlying225 Tryz.type225) (c_ Tryz.underlying226 Tryz.type226)) (dC (c_ Tryz.underlying227 Tryz.type227) (c_ Tryz.underlying228 Tryz.type228))) (dC (dC (c_ Tryz.underlying229 Tryz.type229) (c_ Tryz.underlying230 Tryz.type230)) (dC (c_ Tryz.underlying231 Tryz.type231) (c_ Tryz.underlying232 Tryz.type232)))) (dC (dC (dC (c_ Tryz.underlying233 Tryz.type233) (c_ Tryz.underlying234 Tryz.type234)) (dC (c_ Tryz.underlying235 Tryz.type235) (c_ Tryz.underlying236 Tryz.type236))) (dC (dC (c_ Tryz.underlying237 Tryz.type237) (c_ Tryz.underlying238 Tryz.type238)) (dC (c_ Tryz.underlying239 Tryz.type239) (dC (c_ Tryz.underlying240 Tryz.type240) (c_ Tryz.underlying241 Tryz.type241))))))) (dC (dC (dC (dC (dC (c_ Tryz.underlying242 Tryz.type242) (c_ Tryz.underlying243 Tryz.type243)) (dC (c_ Tryz.underlying244 Tryz.type244) (c_ Tryz.underlying245 Tryz.type245))) (dC (dC (c_ Tryz.underlying246 Tryz.type246) (c_ Tryz.underlying247 Tryz.type247)) (dC (c_ Tryz.underlying248 Tryz.type248) (c_ Tryz.underlying249 Tryz.type249)))) (dC (dC (dC (c_ Tryz.underlying250 Tryz.type250) (c_ Tryz.underlying251 Tryz.type251)) (dC (c_ Tryz.underlying252 Tryz.type252) (c_ Tryz.underlying253 Tryz.type253))) (dC (dC (c_ Tryz.underlying254 Tryz.type254) (c_ Tryz.underlying255 Tryz.type255)) (dC (c_ Tryz.underlying256 Tryz.type256) (c_ Tryz.underlying257 Tryz.type257))))) (dC (dC (dC (dC (c_ Tryz.underlying258 Tryz.type258) (c_ Tryz.underlying259 Tryz.type259)) (dC (c_ Tryz.underlying260 Tryz.type260) (c_ Tryz.underlying261 Tryz.type261))) (dC (dC (c_ Tryz.underlying262 Tryz.type262) (c_ Tryz.underlying263 Tryz.type263)) (dC (c_ Tryz.underlying264 Tryz.type264) (c_ Tryz.underlying265 Tryz.type265)))) (dC (dC (dC (c_ Tryz.underlying266 Tryz.type266) (c_ Tryz.underlying267 Tryz.type267)) (dC (c_ Tryz.underlying268 Tryz.type268) (c_ Tryz.underlying269 Tryz.type269))) (dC (dC (c_ Tryz.underlying270 Tryz.type270) (c_ Tryz.underlying271 Tryz.type271)) (dC (c_ Tryz.underlying272 Tryz.type272) (dC (c_ Tryz.underlying273 Tryz.type273) (c_ Tryz.underlying274 Tryz.type274))))))))))

noncomputable instance:dG Tryz.prog:=⟨wC,Sy⟩
end Go.Sx
namespace Go.Sx
open Go.RowKit
section
variable {P:Program} {ops:Array Oper} {Q:Exit->Act->World->Prop}
def Tf:Exit->Act->World->Prop:=λ_ _ _=>False
theorem Vu:¬LetsOut Tf:=fun⟨_,_,h⟩=>h
theorem My {o:Oper} {a:Act} {w:World} {K:Act->World->Prop} (h:o.wp P a w K Tf):o.wp P a w K Q:=by
 unfold Oper.wp at *
 generalize (execOp a.eval o).run P w=r at *
 cases r with
 | ok n c =>
  cases n<;>simp only[Oper.upon]at h ⊢ <;> first
   |exact h
   |exact Calls.mono h (λe d b=>by cases e<;>first|exact b|exact absurd b Vu|exact b.elim)
 |halt x c=>cases x<;>simp only[Oper.upon]at h ⊢ <;> first|exact h|exact h.elim
def XS (a b:Act) (d:Option Tmp):Prop:=∃u c,b=({a with defers:=c}:Act).put d u
theorem ZK {o:Oper} {a:Act} {w:World} {K:Act->World->Prop} (h:o.wp P a w K Tf):o.wp P a w (λj g=>K j g∧XS a j o.dst) Tf:=by
 unfold Oper.wp at *
 generalize (execOp a.eval o).run P w=r at *
 cases r with
 | ok n g =>
  cases n<;>simp only[Oper.upon]at h ⊢
  case value v=>exact⟨h,v,a.defers,rfl⟩
  case skip=>exact⟨h,undef,a.defers,rfl⟩
  case defer d=>exact⟨h,undef,d::a.defers,rfl⟩
  case enter f args=>
   refine Calls.mono h λe i b=> ?_;cases e with
   |returned v=>exact⟨b,v,a.defers,rfl⟩
   |panicked c=>exact b
   |outgrown=>exact b
  case row row args=>exact Rows.mono h λv i b=>⟨b,v,a.defers,rfl⟩
 |halt x g=>cases x<;>simp only[Oper.upon]at h ⊢ <;> exact h
theorem RA {o:Oper} {a:Act} {w:World} {K:Act->World->Prop} (h:o.wp P a w K Tf):∃j g,K j g:=by
 unfold Oper.wp at *
 generalize (execOp a.eval o).run P w=r at *
 cases r with
 | ok n g =>
  cases n<;>simp only[Oper.upon]at h
  case value v=>exact⟨_,_,h⟩
  case skip=>exact⟨_,_,h⟩
  case defer d=>exact⟨_,_,h⟩
  case enter f args=>
   obtain⟨e,i,k,b,_⟩:=h [];cases e with
   |returned v=>exact⟨_,_,b⟩
   |panicked c=>exact b.elim
   |outgrown=>exact absurd b Vu
  case row row args=>
   obtain⟨v,i,b,_⟩:=h default [];exact⟨_,_,b⟩
 |halt x g=>cases x<;>simp only[Oper.upon]at h<;>exact h.elim
theorem VA {o:Oper} {a:Act} {w:World} {K:Act->World->Prop} {d:Option Tmp} {v:Value} (s:∀p b,o.op ≠ .select p b) (q:∀t,d=some t->t∉o.looksAt ops) (g:∀t,d=some t->o.dst≠some t)
  (h:o.wp P a w K Tf):o.wp P (a.put d v) w (λm j=>∃l,K l j∧m=l.put d v) Tf:=by
 unfold Oper.wp at *
 rw[execOp_put (ops:=ops) o s a d v q];have y:(a.put d v).defers=a.defers:=by cases d<;>rfl
 generalize (execOp a.eval o).run P w=r at *
 cases r with
 | ok n j =>
  cases n<;>simp only[Oper.upon]at h ⊢
  case value u=>exact⟨_,h,Act.put_comm a v u g⟩
  case skip=>exact⟨_,h,Act.put_comm a v undef g⟩
  case defer e=>exact⟨_,h,by rw[Act.put_defers,Act.put_comm _ v undef g]⟩
  case enter f args=>
   refine Calls.mono h λe k i=> ?_;cases e with
   |returned u=>exact⟨_,i,Act.put_comm a v u g⟩
   |panicked c=>exact i
   |outgrown=>exact i
  case row row args=>exact Rows.mono h λu k i=>⟨_,i,Act.put_comm a v u g⟩
 |halt x j=>cases x<;>simp only[Oper.upon]at h ⊢ <;> exact h
theorem qF {o:Oper} {a:Act} {w:World} {K b:Act->World->Prop} (c:∀a w,K a w->b a w) (h:o.wp P a w K Tf):o.wp P a w b Tf:=Oper.wp_mono c h
def QA (P:Program) (A:Nat->Nat->Bool) (i:Nat) (o:Oper) (a:Act) (w:World) (H:List (Nat×World)) (v:Value) (B:World->Prop):Prop:=
 B w∧(∀l∈H,A i l.1=false->B l.2)∧∀b,B b->(execOp a.eval o).run P b = .ok (.value v) b
def RW (P:Program) (ops:Array Oper) (Q:Exit->Act->World->Prop) (A:Nat->Nat->Bool) (c:Nat->Bool) (d:Nat):List Nat->Act->World->List (Nat×World)->List (Nat×(World->Prop))->Prop
 | [],a,w,_,_=>Q .normal a w
 | i :: rest, a, w, H, Bs =>
  match ops[i]? with
  |none=>False
  | some o =>
   if Region.wanted o (yielded ops a.tmps)then
    (d<=i∧(o.wp P a w (λf e=>RW P ops Q A c d rest f e H Bs) Q∨o.rnd P a w (λf e=>RW P ops Q A c d rest f e H Bs)))∨
    (i<d∧c i=false∧∃v B,QA P A i o a w H v B∧RW P ops Q A c d rest (a.put o.dst v) w H ((i,B)::Bs))∨
    (i<d∧c i=true∧o.wp P a w (λf e=>(∀b∈Bs,A i b.1=false->b.2 e)∧RW P ops Q A c d rest f e ((i,w)::H) Bs) Tf)
   else RW P ops Q A c d rest (a.put o.dst undef) w H Bs
variable {A:Nat->Nat->Bool} {loud:Nat->Bool} {k0:Nat}
theorem abe:∀(L:List Nat) (a:Act) (w:World) (H:List (Nat×World)) (d c:List (Nat×(World->Prop))),(∀b∈c,b∈d)->RW P ops Q A loud k0 L a w H d->RW P ops Q A loud k0 L a w H c:=by
 intro L
 induction L with
 |nil=>intro a w H d c _ h;exact h
 | cons i L ih =>
  intro a w H d c e h;simp only[RW]at h ⊢;cases l:ops[i]? with
  |none=>simp[l]at h
  | some o =>
   simp only[l]at h ⊢;split
   ·rename_i k;rw[if_pos k]at h;rcases h with⟨f,h2⟩|⟨f,h2,v,B,j,m⟩|⟨f,h2,j⟩
    ·refine .inl ⟨f,?_⟩;rcases h2 with h2|h2
     ·exact .inl (Oper.wp_mono (λa w h=>ih a w H d c e h) h2)
     ·exact .inr (Oper.rnd_mono (λa w h=>ih a w H d c e h) h2)
    ·exact .inr (.inl ⟨f,h2,v,B,j,ih _ _ _ _ _ (λb g=>by
      rcases zAk.1 g with rfl|g
      ·exact zA7
      ·exact zAh _ (e b g)) m⟩)
    ·exact .inr (.inr ⟨f,h2,qF (λa w h=>⟨λb g=>h.1 b (e b g),ih a w _ d c e h.2⟩) j⟩)
   ·rename_i k;rw[if_neg k]at h;exact ih _ _ _ _ _ e h
structure Lq (ops:Array Oper) (A:Nat->Nat->Bool) (loud:Nat->Bool) (x i:Nat):Prop where
 na:A i x=false
 nb:A x i=false
 apart:∀ox oi,ops[x]? = some ox->ops[i]? = some oi->ox.apart ops oi=true
 one:loud x=false∨loud i=false
theorem Oc {a c:Act} {o:Oper} {d:Option Tmp} (i:∀f b,o.op ≠ .select f b) (h:∀t,d=some t->t∉o.looksAt ops) (g:XS a c d):execOp c.eval o=execOp a.eval o∧Region.wanted o (yielded ops c.tmps)=Region.wanted o (yielded ops a.tmps):=by
 obtain⟨u,e,rfl⟩:=g;refine⟨(execOp_put (ops:=ops) o i {a with defers:=e} d u h).trans Z,wanted_put o {a with defers:=e} d u h⟩
theorem QA.of_exec {i:Nat} {o:Oper} {a b:Act} {w:World} {H:List (Nat×World)} {v:Value} {B:World->Prop} (h:QA P A i o a w H v B) (e:execOp b.eval o=execOp a.eval o):QA P A i o b w H v B:=by
 obtain⟨c,d,f⟩:=h;exact⟨c,d,λj g=>by rw[e];exact f j g⟩
theorem GM (t:∀(i:Nat) (o:Oper),ops[i]? = some o->∀cs b,o.op ≠ .select cs b) {i:Nat} {o:Oper} {Y:List Nat} (hi:ops[i]? = some o) (ad:i<k0) (aa:loud i=false):
  ∀(r:List Nat) (a:Act) (w:World) (H:List (Nat×World)) (G:List (Nat×(World->Prop))),(∀x∈r,Lq ops A loud x i∧x<k0)->RW P ops Q A loud k0 (r++i::Y) a w H G->
   (Region.wanted o (yielded ops a.tmps)=false∧RW P ops Q A loud k0 (r++Y) (a.put o.dst undef) w H G)∨
   (Region.wanted o (yielded ops a.tmps)=true∧∃v B,QA P A i o a w H v B∧RW P ops Q A loud k0 (r++Y) (a.put o.dst v) w H G):=by
 intro r
 induction r with
 | nil =>
  intro a w H G _ h;simp only[List.nil_append,RW,hi]at h;by_cases e:Region.wanted o (yielded ops a.tmps)=true
  ·rw[if_pos e]at h;rcases h with⟨h,_⟩|⟨_,_,v,B,hv,h⟩|⟨_,h,_⟩
   ·omega
   ·exact .inr ⟨e,v,B,hv,abe _ _ _ _ _ _ (λb hb=>zAh _ hb) h⟩
   ·rw[aa]at h;cases h
  ·rw[if_neg e]at h;exact .inl ⟨by simpa using e,h⟩
 | cons x r ih =>
  intro a w H G hx h;obtain⟨D,q⟩:=hx x zA7;have k:∀y∈r,Lq ops A loud y i∧y<k0:=λy hy=>hx y (zAh _ hy);simp only[List.cons_append,RW]at h ⊢;cases n:ops[x]? with
  |none=>simp[n]at h
  | some ox =>
   simp only[n]at h ⊢;obtain⟨p1,U,W⟩:=Oper.apart_spec (D.apart ox o n hi);have S:=t i o hi;have C:=t x ox n;have q2:∀(d:Tmp),o.dst=some d->ox.dst≠some d:=λd hd O=>U d O hd;have ex:∀(b:Act) u,execOp (b.put o.dst u).eval ox=execOp b.eval ox:=λb u=>execOp_put (ops:=ops) ox C b o.dst u W;have F:∀(b:Act) u,Region.wanted ox (yielded ops (b.put o.dst u).tmps)=Region.wanted ox (yielded ops b.tmps):=λb u=>wanted_put ox b o.dst u W;have ei:∀(b:Act) u,execOp (b.put ox.dst u).eval o=execOp b.eval o:=λb u=>execOp_put (ops:=ops) o S b ox.dst u p1;have X:∀(b:Act) u,Region.wanted o (yielded ops (b.put ox.dst u).tmps)=Region.wanted o (yielded ops b.tmps):=λb u=>wanted_put o b ox.dst u p1;by_cases e:Region.wanted ox (yielded ops a.tmps)=true
   ·rw[if_pos e]at h;rcases h with⟨h,_⟩|⟨_,f,V,Bx,T,h⟩|⟨_,f,h⟩
    ·omega
    ·rcases ih _ w H _ k h with⟨c,z⟩|⟨c,v,B,z,h3⟩
     ·rw[X]at c;refine .inl ⟨c,?_⟩;rw[if_pos (by rw[F];exact e)];exact .inr (.inl ⟨q,f,V,Bx,T.of_exec (ex a undef),by rw[<-Act.put_comm a V undef U];exact z⟩)
     ·rw[X]at c;refine .inr ⟨c,v,B,z.of_exec (ei a V).symm,?_⟩;rw[if_pos (by rw[F];exact e)];exact .inr (.inl ⟨q,f,V,Bx,T.of_exec (ex a v),by rw[<-Act.put_comm a V v U];exact h3⟩)
    ·have h':=ZK h;obtain⟨a1,w1,⟨⟨_,ab⟩,m⟩⟩:=RA h';have E:=λ{a':Act} (s:XS a a' ox.dst)=>Oc (ops:=ops) S p1 s;rcases ih a1 w1 _ _ k ab with⟨c,_⟩|⟨c,v,B,⟨ac,J,L⟩,_⟩
     ·have j:Region.wanted o (yielded ops a.tmps)=false:=by rw[<-(E m).2];exact c
      refine .inl ⟨j,?_⟩;rw[if_pos (by rw[F];exact e)];refine .inr (.inr ⟨q,f,?_⟩);refine qF ?_ (VA (ops:=ops) (d:=o.dst) (v:=undef) C W q2 h');rintro a2 w2 ⟨a3,⟨⟨O,hr⟩,s⟩,rfl⟩;refine⟨O,?_⟩
      rcases ih a3 w2 _ _ k hr with⟨_,h5⟩|⟨I,_⟩
      ·exact h5
      ·rw[(E s).2,j]at I;cases I
     ·have j:Region.wanted o (yielded ops a.tmps)=true:=by rw[<-(E m).2];exact c
      have N:B w:=J (x,w) zA7 D.na;have R:(execOp a.eval o).run P w = .ok (.value v) w:=by rw[<-(E m).1];exact L w N
      refine .inr ⟨j,v,B,⟨N,λl s=>J l (zAh _ s),λw' p=>by rw[<-(E m).1];exact L w' p⟩,?_⟩;rw[if_pos (by rw[F];exact e)];refine .inr (.inr ⟨q,f,?_⟩);refine qF ?_ (VA (ops:=ops) (d:=o.dst) (v:=v) C W q2 h');rintro a2 w2 ⟨a3,⟨⟨O,hr⟩,s⟩,rfl⟩;refine⟨O,?_⟩
      rcases ih a3 w2 _ _ k hr with⟨I,_⟩|⟨_,v',B',⟨_,K,M⟩,h5⟩
      ·rw[(E s).2,j]at I;cases I
      ·have g:=M w (K (x,w) zA7 D.na);rw[(E s).1,R]at g;cases g;exact h5
   ·rw[if_neg e]at h;have p:Region.wanted ox (yielded ops a.tmps)=false:=by simpa using e
    rcases ih _ w H _ k h with⟨c,z⟩|⟨c,v,B,z,h3⟩
    ·rw[X]at c;refine .inl ⟨c,?_⟩;rw[if_neg (by rw[F,p];simp),<-Act.put_comm a undef undef U];exact z
    ·rw[X]at c;refine .inr ⟨c,v,B,z.of_exec (ei a undef).symm,?_⟩;rw[if_neg (by rw[F,p];simp),<-Act.put_comm a undef v U];exact h3
theorem HV (t:∀(i:Nat) (o:Oper),ops[i]? = some o->∀cs b,o.op ≠ .select cs b) {i:Nat} {o:Oper} {U:List Nat} (Y:ops[i]? = some o) (ac:i<k0) (K:loud i=true):
  ∀(q:List Nat) (a:Act) (w:World) (H:List (Nat×World)) (G:List (Nat×(World->Prop))),(∀x∈q,Lq ops A loud x i∧x<k0)->RW P ops Q A loud k0 (q++i::U) a w H G->
   (Region.wanted o (yielded ops a.tmps)=false∧RW P ops Q A loud k0 (q++U) (a.put o.dst undef) w H G)∨
   (Region.wanted o (yielded ops a.tmps)=true∧o.wp P a w (λI z=>(∀b∈G,A i b.1=false->b.2 z)∧RW P ops Q A loud k0 (q++U) I z ((i,w)::H) G) Tf):=by
 intro q
 induction q with
 | nil =>
  intro a w H G _ h;simp only[List.nil_append,RW,Y]at h;by_cases j:Region.wanted o (yielded ops a.tmps)=true
  ·rw[if_pos j]at h;rcases h with⟨h,_⟩|⟨_,h,_⟩|⟨_,_,h⟩
   ·omega
   ·rw[K]at h;cases h
   ·exact .inr ⟨j,h⟩
  ·rw[if_neg j]at h;exact .inl ⟨by simpa using j,h⟩
 | cons x q ih =>
  intro a w H G hx h;obtain⟨E,N⟩:=hx x zA7;have O:∀y∈q,Lq ops A loud y i∧y<k0:=λy hy=>hx y (zAh _ hy);have D:loud x=false:=E.one.resolve_right (by rw[K];simp);simp only[List.cons_append,RW]at h ⊢;cases m:ops[x]? with
  |none=>simp[m]at h
  | some ox =>
   simp only[m]at h ⊢;obtain⟨p1,F,p3⟩:=Oper.apart_spec (E.apart ox o m Y);have aa:=t i o Y;have L:=t x ox m;have ex:∀(b:Act) u,execOp (b.put o.dst u).eval ox=execOp b.eval ox:=λb u=>execOp_put (ops:=ops) ox L b o.dst u p3;have wx:∀(b:Act) u,Region.wanted ox (yielded ops (b.put o.dst u).tmps)=Region.wanted ox (yielded ops b.tmps):=λb u=>wanted_put ox b o.dst u p3;have S:∀(b:Act) u,Region.wanted o (yielded ops (b.put ox.dst u).tmps)=Region.wanted o (yielded ops b.tmps):=λb u=>wanted_put o b ox.dst u p1;have lx:=λ{I:Act} (J:XS a I o.dst)=>Oc (ops:=ops) L p3 J;have s:∀(u:Value) (Z:Act->World->Prop),o.wp P (a.put ox.dst u) w Z Tf->o.wp P a w (λI z=>XS a I o.dst∧Z (I.put ox.dst u) z) Tf:=by
    intro u Z k;unfold Oper.wp at *
    rw[execOp_put (ops:=ops) o aa a ox.dst u p1]at k;generalize (execOp a.eval o).run P w=r at *
    cases r with
    | ok n z =>
     cases n<;>simp only[Oper.upon]at k ⊢
     case value v=>exact⟨⟨v,a.defers,rfl⟩,by rw[<-Act.put_comm a u v F];exact k⟩
     case skip=>exact⟨⟨undef,a.defers,rfl⟩,by rw[<-Act.put_comm a u undef F];exact k⟩
     case defer e=>exact⟨⟨undef,e::a.defers,rfl⟩,by rw[<-Act.put_comm _ u undef F,<-Act.put_defers];exact k⟩
     case enter f args=>
      refine Calls.mono k λe ab g=> ?_;cases e with
      |returned v=>exact⟨⟨v,a.defers,rfl⟩,by rw[<-Act.put_comm a u v F];exact g⟩
      |panicked c=>exact g
      |outgrown=>exact g
     case row row args=>exact Rows.mono k λv ab g=>⟨⟨v,a.defers,rfl⟩,by rw[<-Act.put_comm a u v F];exact g⟩
    |halt y z=>cases y<;>simp only[Oper.upon]at k ⊢ <;> exact k
   by_cases j:Region.wanted ox (yielded ops a.tmps)=true
   ·rw[if_pos j]at h;rcases h with⟨h,_⟩|⟨_,_,R,T,M,h⟩|⟨_,h,_⟩
    ·omega
    ·rcases ih _ w H _ O h with⟨d,B⟩|⟨d,B⟩
     ·rw[S]at d;refine .inl ⟨d,?_⟩;rw[if_pos (by rw[wx];exact j)];exact .inr (.inl ⟨N,D,R,T,M.of_exec (ex a undef),by rw[<-Act.put_comm a R undef F];exact B⟩)
     ·rw[S]at d;refine .inr ⟨d,qF ?_ (s R _ B)⟩;rintro a1 w1 ⟨J,g,hr⟩;refine⟨λb hb=>g b (zAh _ hb),?_⟩
      rw[if_pos (by rw[(lx J).2];exact j)];refine .inr (.inl ⟨N,D,R,T,?_,hr⟩);obtain⟨V,W,X⟩:=M;refine⟨g (x,T) zA7 E.na,λl C hA=> ?_,λz p=>by rw[(lx J).1];exact X z p⟩
      rcases zAk.1 C with rfl|C
      ·exact V
      ·exact W l C hA
    ·rw[D]at h;cases h
   ·rw[if_neg j]at h;have p:Region.wanted ox (yielded ops a.tmps)=false:=by simpa using j
    rcases ih _ w H _ O h with⟨d,B⟩|⟨d,B⟩
    ·rw[S]at d;refine .inl ⟨d,?_⟩;rw[if_neg (by rw[wx,p];simp),<-Act.put_comm a undef undef F];exact B
    ·rw[S]at d;refine .inr ⟨d,qF ?_ (s undef _ B)⟩;rintro a1 w1 ⟨J,g,hr⟩;refine⟨g,?_⟩
     rw[if_neg (by rw[(lx J).2,p];simp)];exact hr
end
def wA (o:Oper):List Nat:=(o.after.toList.filter (Region.binds .any)).map (·.on)
def qT (l:List Oper):List Nat:=l.foldl (λa o=>a++[(wA o).foldl (λs e=>s ||| 2^e ||| a.getD e 0) 0]) []
def before (m:List Nat) (i j:Nat):Bool:=(m.getD i 0).testBit j
def e_:Op->Bool
 | .move _ | .assign _ | .pick .. | .build .. | .load .. | .binOp .. | .unOp .. | .convert .. | .fieldAddr .. | .field .. | .indexAddr .. | .index .. | .lookup .. | .extract .. | .slice .. | .makeFunc .. | .nilCheck .. => false
 | .call ⟨.builtin .len,_,_⟩ | .call ⟨.builtin .max,_,_⟩ | .call ⟨.builtin .min,_,_⟩ | .call ⟨.builtin .cap,_,_⟩=>false
 |_=>true
def Dr:Op->Bool
 | .select .. => true
 |_=>false
def dW (l:List Oper) (i:Nat):Bool:=((l[i]?).map λo=>e_ o.op).getD false
def chk (l:List Oper) (m:List Nat) (b:Nat):Bool:=
  (List.range l.length).all λi=>match l[i]? with
    |none=>false
    | some o =>
      (wA o).all (λe=>Nat.blt e i&&before m i e&&(List.range i).all (λk=> !before m e k||before m i k)) &&
      (List.range l.length).all (λk=> !before m i k||(Nat.blt k i&&(wA o).any (λe=>Nat.beq e k||before m e k))) &&
      !Dr o.op &&
      (if Nat.ble b i then(List.range i).all (λx=>before m i x)
       else(List.range i).all (λx=>before m i x||(match l[x]? with|none=>false|some a=>a.apart l.toArray o&&(!e_ a.op || !e_ o.op))))
structure Chk (l:List Oper) (m:List Nat) (k0:Nat):Prop where
 edge:∀(i:Nat) (o:Oper),l[i]? = some o->∀e∈wA o,e<i∧before m i e=true
 trans:∀(i:Nat) (o:Oper),l[i]? = some o->∀k,before m i k=true->k<l.length->k<i∧∃e∈wA o,e=k∨before m e k=true
 sel:∀(i:Nat) (o:Oper),l[i]? = some o->∀cs b,o.op ≠ .select cs b
 tail:∀i x,i<l.length->k0<=i->x<i->before m i x=true
 ind:∀(i x:Nat) (oi ox:Oper),l[i]? = some oi->l[x]? = some ox->i<k0->x<i->before m i x=false->ox.apart l.toArray oi=true∧(e_ ox.op=false∨e_ oi.op=false)
theorem bJ {b:Type} {l:List b} {i:Nat} {x:b} (h:l[i]? = some x):i<l.length:=by
 rcases zAp i l.length with a|a
 ·exact a
 ·rw[zAr a]at h;cases h
theorem YB {l:List Oper} {m:List Nat} {q:Nat} (h:chk l m q=true):Chk l m q:=by
  have a:∀(i:Nat) (o:Oper),l[i]? = some o->
      ((wA o).all (λe=>Nat.blt e i&&before m i e&&(List.range i).all (λk=> !before m e k||before m i k))=true)∧
      ((List.range l.length).all (λk=> !before m i k||(Nat.blt k i&&(wA o).any (λe=>Nat.beq e k||before m e k)))=true)∧Dr o.op=false∧
      ((if Nat.ble q i then(List.range i).all (λx=>before m i x)
       else(List.range i).all (λx=>before m i x||(match l[x]? with|none=>false|some r=>r.apart l.toArray o&&(!e_ r.op || !e_ o.op))))=true):=by
    intro i o c;have:=zA5.1 h i (zAf.2 (bJ c));simp only[c,zA4,Bool.not_eq_true']at this;exact⟨this.1.1.1,this.1.1.2,this.1.2,this.2⟩
  refine⟨?_,?_,?_,?_,?_⟩
  · intro i o c e j;have:=zA5.1 (a i o c).1 e j;simp only[zA4,zAw]at this;exact⟨this.1.1,this.1.2⟩
  · intro i o c k g d;have:=zA5.1 (a i o c).2.1 k (zAf.2 d);simp only[g,Bool.not_true,Bool.false_or,zA4,zAw,List.any_eq_true,zAx]at this;obtain⟨s,e,j,f⟩:=this;refine⟨s,e,j,?_⟩
    rcases f with f|f
    · exact .inl (zA2 f)
    · exact .inr f
  · intro i o c v b e;have:=(a i o c).2.2.1;rw[e]at this;cases this
  · intro i x n g p;obtain⟨o,c⟩:∃o,l[i]? = some o:=⟨_,zA0 n⟩
    have:=(a i o c).2.2.2;rw[if_pos (by simpa using g)]at this;exact zA5.1 this x (zAf.2 p)
  · intro i x u r n p g d t;have:=(a i u n).2.2.2;rw[if_neg (by simpa using g)]at this;have:=zA5.1 this x (zAf.2 d);simp only[t,Bool.false_or,p,zA4,zAx,Bool.not_eq_true']at this;exact this
section
variable {P:Program} {Q:Exit->Act->World->Prop} {l:List Oper} {m:List Nat} {k0:Nat}
theorem RW.any (hc:Chk l m k0):∀(g:Nat) (L:List Nat) (c:Array Bool) (a:Act) (w:World) (H:List (Nat×World)) (Y:List (Nat×(World->Prop))),
  L.length<=g->c.size=l.length->L.Pairwise (· < ·)->(∀i,i∈L↔i<l.length∧c.getD i true=false)->
  (∀j k,c.getD j false=true->before m j k=true->k<l.length->c.getD k false=true)->
  RW P l.toArray Q (before m) (dW l) k0 L a w H Y->wpAny P .any l.toArray Q g c a w:=by
 intro g
 induction g with
 |zero=>
  intro L c a w H Y K W p d R h;have hL:L=[]:=zAq (by omega);subst hL;refine⟨?_,h⟩
  rw[List.eq_nil_iff_forall_not_mem];intro i hi;obtain⟨h0,o,A,_⟩:=mem_ready.1 hi;have:i<l.length:=by have:=(zAa.1 A).1;simpa using this
  have:=(d i).2 ⟨this,h0⟩;simp at this
 | succ g ih =>
  intro L c a w H Y K W p d R h;refine⟨λF=> ?_,λi hi=> ?_⟩
  ·cases L with
   |nil=>exact h
   | cons i L =>
    exfalso;obtain⟨q,h0⟩:=(d i).1 zA7;obtain⟨o,A⟩:∃o,l[i]? = some o:=⟨_,zA0 q⟩
    have:i∈Region.ready .any l.toArray c:=by
     refine mem_ready.2 ⟨h0,o,by simpa using A,λe he O=> ?_⟩;have aj:e.on∈wA o:=zAn.2 ⟨e,List.mem_filter.2 ⟨by simpa using he,O⟩,rfl⟩;have ap:=(hc.edge i o A e.on aj).1;cases hg:c.getD e.on true with
     |false=>
      have hm:=(d e.on).2 ⟨by omega,hg⟩;rcases zAk.1 hm with e1|e1
      ·omega
      ·have:=(List.pairwise_cons.1 p).1 _ e1;omega
     |true=>
      have:e.on<c.size:=by omega
      simp[this]at hg ⊢;exact hg
    rw[F]at this;simp at this
  ·obtain⟨h0,o,ah,S⟩:=mem_ready.1 hi;have A:l[i]? = some o:=by simpa using ah
   have q:i<l.length:=bJ A;have ak:i∈L:=(d i).2 ⟨q,h0⟩;obtain⟨u,L2,rfl⟩:=List.append_of_mem ak;have hs:=List.pairwise_append.1 p;have D:∀x∈u,x<i:=λx t=>hs.2.2 x t i zA7;have ab:∀x∈L2,i<x:=λx t=>(List.pairwise_cons.1 hs.2.1).1 x t;have I:∀k,before m i k=true->k<l.length->c.getD k false=true:=by
    intro k X ag;obtain⟨_,e,he,T⟩:=hc.trans i o A k X ag;obtain⟨ed,ai,rfl⟩:=zAn.1 he;obtain⟨ac,ad⟩:=List.mem_filter.1 ai;have hl:=S ed (by simpa using ac) ad;rcases T with rfl|T
    ·exact hl
    ·exact R _ _ hl T ag
   have V:∀x∈u,before m i x=false:=by
    intro x t;cases O:before m i x with
    |false=>rfl
    |true=>
     have G:=((d x).1 (by simp[t]))
     have:=I x O G.1;have am:x<c.size:=by omega
     simp[am]at this G;rw[this]at G;simp at G
   -- the rest
   have next:∀z C H' N,RW P l.toArray Q (before m) (dW l) k0 (u++L2) z C H' N->wpAny P .any l.toArray Q g (c.setIfInBounds i true) z C:=by
    intro z C H' N F;refine ih (u++L2) _ z C H' N ?_ (by simp[W]) ?_ ?_ ?_ F
    ·simp at K ⊢;omega
    ·exact List.pairwise_append.2 ⟨hs.1,(List.pairwise_cons.1 hs.2.1).2,λx t y hy=>by have:=D x t;have:=ab y hy;omega⟩
    ·intro j;by_cases e:i=j
     ·subst e;constructor
      ·intro f;rcases List.mem_append.1 f with f|f
       ·have:=D i f;omega
       ·have:=ab i f;omega
      ·rintro⟨_,f⟩;simp[W,q]at f
     ·rw[getD_set_ne true e];have:=d j;simp only[List.mem_append,zAk]at this ⊢;constructor
      ·intro f;exact this.1 (by rcases f with f|f;exact .inl f;exact .inr (.inr f))
      ·intro f;rcases this.2 f with f|rfl|f
       ·exact .inl f
       ·exact absurd Z e
       ·exact .inr f
    ·intro j k f af X;by_cases e:i=j
     ·subst e;exact getD_set_true (I k af X)
     ·rw[getD_set_ne false e]at f;exact getD_set_true (R j k f af X)
   have s:l.toArray[i]? = some o:=ah;by_cases X:k0<=i
   ·have aa:u=[]:=by
     cases u with
     |nil=>rfl
     |cons x u=>
      have n:=V x zA7;have r:=hc.tail i x q X (D x zA7);rw[n]at r;cases r
    subst aa;simp only[List.nil_append,RW,s]at h;unfold wpOp;simp only[s];split
    ·rename_i hw;rw[if_pos hw]at h;rcases h with⟨_,h|h⟩|⟨h,_⟩|⟨h,_⟩
     ·exact .inl (Oper.wp_mono (λz C F=>next z C _ _ F) h)
     ·exact .inr (Oper.rnd_mono (λz C F=>next z C _ _ F) h)
     ·omega
     ·omega
    ·rename_i hw;rw[if_neg hw]at h;exact next _ _ _ _ h
   ·have U:i<k0:=by omega
    have J:∀x∈u,Lq l.toArray (before m) (dW l) x i∧x<k0:=by
     intro x t;have al:=D x t;obtain⟨ox,E⟩:∃ox,l[x]? = some ox:=⟨_,zA0 (by omega)⟩
     have ae:=hc.ind i x o ox A E U al (V x t);refine⟨⟨V x t,?_,?_,?_⟩,by omega⟩
     ·cases O:before m x i with
      |false=>rfl
      |true=>have:=(hc.trans x ox E i O q).1;omega
     ·intro ao an n r;have e1:ox=ao:=by simpa [E]using n
      have e2:o=an:=by simpa [A]using r
      rw[<-e1,<-e2];exact ae.1
     ·rcases ae.2 with n|n
      ·exact .inl (by simp[dW,E,n])
      ·exact .inr (by simp[dW,A,n])
    have M:∀(i:Nat) (o:Oper),l.toArray[i]? = some o->∀cs b,o.op ≠ .select cs b:=λi o h=>hc.sel i o (by simpa using h);unfold wpOp;simp only[s];cases hl:dW l i with
    | false =>
     rcases GM M s U hl u a w H Y J h with⟨n,r⟩|⟨n,v,B,⟨O,_,F⟩,r⟩
     ·rw[n];exact next _ _ _ _ r
     ·rw[n];exact .inl (by simp only[Oper.wp,F w O,Oper.upon];exact next _ _ _ _ r)
    | true =>
     rcases HV M s U hl u a w H Y J h with⟨n,r⟩|⟨n,r⟩
     ·rw[n];exact next _ _ _ _ r
     ·rw[n];exact .inl (My (qF (λz C hh=>next z C _ _ hh.2) r))
theorem Ng {g:Option Nat} {id:Nat} {a:Act} {w:World} (e:l.all kM=true) (f:P.follows .mixedOrders=true) (d:chk l m k0=true)
  (h:RW P l.toArray Q (before m) (dW l) k0 (List.range l.length) a w.drew [] []):(Code.region id l.toArray true).wpr g P Q a w:=by
 refine FS e f ?_;refine RW.any (YB d) _ (List.range l.length) _ a _ [] [] (by simp) (by simp) List.pairwise_lt_range ?_ ?_ h
 ·intro i;simp only[zAf];constructor
  ·intro c;exact⟨c,by simp[c]⟩
  ·exact λh=>h.1
 ·intro j k b;simp[Array.getElem?_replicate]at b;split at b<;>simp at b
def aes (c:xD):List (Nat×List bF×List bF)->List (Nat×World)->Prop
 | [],[]=>True
 |h::H,x::X=>h.1=x.1∧St c h.2.1 h.2.2 x.2∧aes c H X
 |_,_=>False
def SV (c:xD):List (Nat×List bF×List bF)->List (Nat×(World->Prop))->Prop
 | [],[]=>True
 |b::B,x::X=>x=(b.1,St c b.2.1 b.2.2)∧SV c B X
 |_,_=>False
def JR (c:xD) (n:Sz) (d:Fr) (M L:List bF) (H b:List (Nat×List bF×List bF)) (G:Act->World->List (Nat×World)->List (Nat×(World->Prop))->Prop):Prop:=
 ∀a w X Y,Gt n d a->St c M L w->aes c H X->SV c b Y->G a w X Y
variable {c:xD} {n:Sz} {σ:Fr} {M L Mx Lx:List bF} {H Bs:List (Nat×List bF×List bF)}
theorem JR.start {f:Option Nat} {id:Nat} (m:List Nat) (k0:Nat) (e:P.follows .mixedOrders=true) (b:chk l m k0=true)
  (h:JR c n σ M L [] [] (RW P l.toArray Q (before m) (dW l) k0 (List.range l.length))) (d:l.all kM=true:=by rfl):J c n σ M L ((Code.region id l.toArray true).wpr f P Q):=λa w s t=>
 Ng d e b (h a w.drew [] [] s (t.ext ((Below.refl _ _).drew)) trivial trivial)
structure Jb (M L Mx Lx:List bF):Prop where
 hM:a_ M Mx
 hL:Bz L Lx
theorem Jb.st {M L Mx Lx:List bF} (h:Jb M L Mx Lx) {w:World} (t:St c M L w):St c Mx Lx w:=t.weak h.hM h.hL
def aN (A:Nat->Bool) (Mx Lx:List bF):List (Nat×List bF×List bF)->Prop
 | []=>True
 |h::H=>(A h.1=true∨Jb h.2.1 h.2.2 Mx Lx)∧aN A Mx Lx H
def Di (A:Nat->Bool) (M L:List bF):List (Nat×List bF×List bF)->Prop
 | []=>True
 |b::B=>(A b.1=true∨Jb M L b.2.1 b.2.2)∧Di A M L B
theorem aN.use {A:Nat->Bool} {Mx Lx:List bF}:∀{H:List (Nat×List bF×List bF)} {X:List (Nat×World)},aN A Mx Lx H->aes c H X->∀x∈X,A x.1=false->St c Mx Lx x.2
 | [],[],_,_,x,a,_=>by simp at a
 | [],_::_,_,h,_,_,_=>h.elim
 |_::_,[],_,h,_,_,_=>h.elim
 | h :: H, y :: X, ho, hi, x, a, hA => by
  rcases zAk.1 a with rfl|a
  ·rcases ho.1 with b|b
   ·rw[hi.1,hA]at b;cases b
   ·exact b.st hi.2.1
  ·exact aN.use ho.2 hi.2.2 x a hA
theorem Di.use {A:Nat->Bool} {M L:List bF} {w:World} (t:St c M L w):∀{B:List (Nat×List bF×List bF)} {X:List (Nat×(World->Prop))},Di A M L B->SV c B X->∀x∈X,A x.1=false->x.2 w
 | [],[],_,_,x,a,_=>by simp at a
 | [],_::_,_,h,_,_,_=>h.elim
 |_::_,[],_,h,_,_,_=>h.elim
 | b :: B, y :: X, ho, hi, x, a, hA => by
  rcases zAk.1 a with rfl|a
  ·rcases ho.1 with d|d
   ·rw[hi.1]at hA;rw[d]at hA;cases hA
   ·rw[hi.1];exact d.st t
  ·exact Di.use t ho.2 hi.2 x a hA
theorem JR.quiet {i:Nat} {b:List Nat} {d:Nat} {g:Op} {k:TypeId} {f:String} {e:Array Edge} {v:Value} (Mx Lx:List bF)
  (p:l[i]? = some ⟨some d,g,k,f,e,none⟩) (y:Nat.blt i k0=true) (z:e_ g=false) (A:Y P c n σ Mx Lx ⟨some d,g,k,f,e,none⟩ v) (r:Jb M L Mx Lx) (q:aN (before m i) Mx Lx H) (x:Nat.blt d n.sz=true)
  (h:JR c n ((d,v)::σ) M L H ((i,Mx,Lx)::Bs) (RW P l.toArray Q (before m) (dW l) k0 b)):JR c n σ M L H Bs (RW P l.toArray Q (before m) (dW l) k0 (i::b)):=λa w X Y s t o u=>by
 have j:l.toArray[i]? = some ⟨some d,g,k,f,e,none⟩:=by simpa using p
 simp only[RW,j];rw[if_pos (by simp[Region.wanted])];refine .inr (.inl ⟨by simpa [zAw]using y,by simp[dW,p,z],v,St c Mx Lx,⟨r.st t,q.use o,λC B=>A a C s B⟩,h _ w X _ (s.put d v x) t o ⟨rfl,u⟩⟩)
theorem Wk {i:Nat} {e:List Nat} {d:Nat} {k:Op} {p:TypeId} {g:String} {f:Array Edge} {j:Nat} {b:Bool} {v:Value} (Mx Lx:List bF)
  (r:l[i]? = some ⟨some d,k,p,g,f,some (j,b)⟩) (B:Nat.blt i k0=true) (C:e_ k=false) (A:gv l.toArray σ j=some b) (D:Y P c n σ Mx Lx ⟨some d,k,p,g,f,some (j,b)⟩ v) (x:Jb M L Mx Lx) (u:aN (before m i) Mx Lx H) (z:Nat.blt d n.sz=true)
  (h:JR c n ((d,v)::σ) M L H ((i,Mx,Lx)::Bs) (RW P l.toArray Q (before m) (dW l) k0 e)):JR c n σ M L H Bs (RW P l.toArray Q (before m) (dW l) k0 (i::e)):=λa w X Y s t q y=>by
 have o:l.toArray[i]? = some ⟨some d,k,p,g,f,some (j,b)⟩:=by simpa using r
 simp only[RW,o];rw[if_pos (by simp[Region.wanted,BQ s A])];refine .inr (.inl ⟨by simpa [zAw]using B,by simp[dW,r,C],v,St c Mx Lx,⟨x.st t,u.use q,λF E=>D a F s E⟩,h _ w X _ (s.put d v z) t q ⟨rfl,y⟩⟩)
theorem bL {i:Nat} {e:List Nat} {d:Nat} {p:Op} {q:TypeId} {g:String} {f:Array Edge} {j:Nat} {b o:Bool}
  (z:l[i]? = some ⟨some d,p,q,g,f,some (j,b)⟩) (y:gv l.toArray σ j=some o) (v:(o==b)=false) (x:Nat.blt d n.sz=true)
  (h:JR c n ((d,undef)::σ) M L H Bs (RW P l.toArray Q (before m) (dW l) k0 e)):JR c n σ M L H Bs (RW P l.toArray Q (before m) (dW l) k0 (i::e)):=λa w X Y s t r u=>by
 have k:l.toArray[i]? = some ⟨some d,p,q,g,f,some (j,b)⟩:=by simpa using z
 simp only[RW,k];rw[if_neg (by simp[Region.wanted,BQ s y,v])];exact h _ w X Y (s.put d undef x) t r u
theorem JR.guard {i f:Nat} {rest:List Nat} {d:Option Tmp} {u:Op} {v:TypeId} {o:String} {g:Array Edge} {j:Nat} {e b:Bool}
  (_:l[i]? = some ⟨d,u,v,o,g,some (j,b)⟩) (_:(l[j]?).bind (·.dst)=some f) (p:lk σ f=some (.bool e))
  (r:e=true->JR c n ((f,.bool true)::σ) M L H Bs (RW P l.toArray Q (before m) (dW l) k0 (i::rest)))
  (q:e=false->JR c n ((f,.bool false)::σ) M L H Bs (RW P l.toArray Q (before m) (dW l) k0 (i::rest))):JR c n σ M L H Bs (RW P l.toArray Q (before m) (dW l) k0 (i::rest)):=by
 cases e
 ·exact λa w X Y s t h k=>q Z a w X Y (s.over (s.slot _ _ p)) t h k
 ·exact λa w X Y s t h k=>r Z a w X Y (s.over (s.slot _ _ p)) t h k
theorem Dj {i e:Nat} {a:List Nat} {d:Option Tmp} {t:Op} {u:TypeId} {g:String} {f:Array Edge} {j:Nat} {p:Prop} {_:Decidable p} {b:Bool}
  (q:l[i]? = some ⟨d,t,u,g,f,some (j,b)⟩) (r:(l[j]?).bind (·.dst)=some e) (o:lk σ e=some (.bool (decide p)))
  (s:p->JR c n ((e,.bool true)::σ) M L H Bs (RW P l.toArray Q (before m) (dW l) k0 (i::a)))
  (k:¬p->JR c n ((e,.bool false)::σ) M L H Bs (RW P l.toArray Q (before m) (dW l) k0 (i::a))):JR c n σ M L H Bs (RW P l.toArray Q (before m) (dW l) k0 (i::a)):=
 JR.guard q r o (λh=>s (of_decide_eq_true h)) (λh=>k (of_decide_eq_false h))
def aI (P:Program) (c:xD) (n:Sz) (σ:Fr) (M L:List bF) (o:Oper) {A:Type} (b:A->Value) (M' L':A->List bF):Prop:=
 ∀a w,Gt n σ a->St c M L w->o.wp P a w (λd e=>∃x:A,d=a.put o.dst (b x)∧St c (M' x) (L' x) e) Tf
theorem aG {A:Type} {i:A->Value} {M' L':A->List bF} {f:Array Oper} {b:List Oper} {d:Nat} {j:Op} {k:TypeId} {g:String} {e:Array Edge}
  (q:aI P c n σ M L ⟨some d,j,k,g,e,none⟩ i M' L') (o:Nat.blt d n.sz=true) (h:∀x,J c n ((d,i x)::σ) (M' x) (L' x) (wpList P f Q b)):
  J c n σ M L (wpList P f Q (⟨some d,j,k,g,e,none⟩::b)):=λa w s t=>
 nZ Z (My (qF (λv u ⟨x,p,r⟩=>by subst p;exact h x _ u (s.put d _ o) r) (q a w s t)))
theorem nN {A:Type} {k:A->Value} {p o:A->List bF} {f:Array Oper} {e:List Oper} {d:Nat} {q:Op} {r:TypeId} {i:String} {g:Array Edge} {j:Nat} {b:Bool}
  (y:gv f σ j=some b) (z:aI P c n σ M L ⟨some d,q,r,i,g,some (j,b)⟩ k p o) (u:Nat.blt d n.sz=true) (h:∀x,J c n ((d,k x)::σ) (p x) (o x) (wpList P f Q e)):
  J c n σ M L (wpList P f Q (⟨some d,q,r,i,g,some (j,b)⟩::e)):=λa w s t=>
 nZ (by simp[Region.wanted,BQ s y]) (My (qF (λD C ⟨x,v,B⟩=>by subst v;exact h x _ C (s.put d _ u) B) (z a w s t)))
theorem zBc {A:Type} {g:A->Value} {o k:A->List bF} {i:Nat} {b:List Nat} {d:Nat} {j:Op} {q:TypeId} {f:String} {e:Array Edge}
  (u:l[i]? = some ⟨some d,j,q,f,e,none⟩) (C:Nat.blt i k0=true) (D:e_ j=true) (E:aI P c n σ M L ⟨some d,j,q,f,e,none⟩ g o k) (B:Nat.blt d n.sz=true)
  (y:∀x,Di (before m i) (o x) (k x) Bs) (h:∀x,JR c n ((d,g x)::σ) (o x) (k x) ((i,M,L)::H) Bs (RW P l.toArray Q (before m) (dW l) k0 b)):
  JR c n σ M L H Bs (RW P l.toArray Q (before m) (dW l) k0 (i::b)):=λa w X Y s t z r=>by
 have p:l.toArray[i]? = some ⟨some d,j,q,f,e,none⟩:=by simpa using u
 simp only[RW,p];rw[if_pos (by simp[Region.wanted])];refine .inr (.inr ⟨by simpa [zAw]using C,by simp[dW,u,D],qF ?_ (E a w s t)⟩);rintro G F ⟨x,rfl,v⟩;exact⟨(y x).use v r,h x _ F _ Y (s.put d _ B) v ⟨rfl,t,z⟩ r⟩
theorem RW.tail {X:List (Nat×World)} {Y:List (Nat×(World->Prop))}:∀(r:List Nat) (b:List Oper),(∀i∈r,k0<=i)->r.map (l[·]?)=b.map some->∀a w,wpList P l.toArray Q b a w->RW P l.toArray Q (before m) (dW l) k0 r a w X Y
 | [],[],_,_,_,_,h=>h
 | [],_::_,_,e,_,_,_=>by simp at e
 |_::_,[],_,e,_,_,_=>by simp at e
 | i :: r, o :: b, hk, e, a, w, h => by
  simp only[zB8,List.cons.injEq]at e;have d:l.toArray[i]? = some o:=by simpa using e.1
  have g:=λa w=>RW.tail (X:=X) (Y:=Y) r b (λi j=>hk i (zAh _ j)) e.2 a w;simp only[RW,d];unfold wpList at h;split
  ·rename_i f;rw[if_pos f]at h;refine .inl ⟨hk i zA7,?_⟩;rcases h with h|h
   ·exact .inl (Oper.wp_mono (λa w h=>g a w h) h)
   ·exact .inr (Oper.rnd_mono (λa w h=>g a w h) h)
  ·rename_i f;rw[if_neg f]at h;exact g _ _ h
theorem JR.tail {r:List Nat} {b:List Oper} (f:r.all (Nat.ble k0)=true) (d:r.map (l[·]?)=b.map some) (h:J c n σ M L (wpList P l.toArray Q b)):JR c n σ M L H Bs (RW P l.toArray Q (before m) (dW l) k0 r):=
 λa w _ _ s t _ _=>RW.tail r b (λi e=>by simpa using zA5.1 f i e) d a w (h a w s t)
end
structure fQ (α:Type) where
 sz:Nat
 pos:0<sz
 enc:α->List Value
 len:∀x,(enc x).length=sz
def fQ.int (k:IntKind):fQ Int:=⟨1,Nat.one_pos,λx=>[.int k x],λ_=>rfl⟩
def fQ.bool:fQ Bool:=⟨1,Nat.one_pos,λx=>[.bool x],λ_=>rfl⟩
def fQ.raw:fQ Value:=⟨1,Nat.one_pos,λx=>[x],λ_=>rfl⟩
def cellsOf {a:Type} (e:fQ a) (b:List a):List Value:=b.flatMap e.enc
theorem eZ {b:Type} (e:fQ b) (a:List b):(cellsOf e a).length=a.length*e.sz:=by
 induction a with
 |nil=>simp[cellsOf]
 |cons x a c=>simp only[cellsOf,List.flatMap_cons,zAi,e.len,zAj,zB1]at *;omega
theorem yO {c:Type} (e:fQ c) (a:List c):∀(i:Nat) (x:c),a[i]? = some x->∀j u,(e.enc x)[j]? = some u->(cellsOf e a)[i*e.sz+j]? = some u:=by
 induction a with
 |nil=>intro i x h;simp at h
 | cons y a ih =>
  intro i x h j u b;simp only[cellsOf,List.flatMap_cons];cases i with
  |zero=>
   simp at h;subst h;rw[zAd (by have:=bJ b;omega)];simpa using b
  |succ i=>
   simp only[List.getElem?_cons_succ]at h;rw[zAb (by rw[e.len,zB1];omega),e.len];have:(i+1)*e.sz+j - e.sz=i*e.sz+j:=by rw[zB1];omega
   rw[this];exact ih i x h j u b
theorem zE {c:Type} (e:fQ c) (a b:List c):cellsOf e (a++b)=cellsOf e a++cellsOf e b:=by simp[cellsOf]
def FU {g:Type} (e:fQ g) (w:World) (F:Nat->Prop) (v:Value) (f:List g):Prop:=
 f.length<=140737488355328∧(cellsOf e f).all one=true∧((v = .slice none 0 0∧f=[])∨∃b d a T,∃c:Array Value,v = .slice (some ⟨b,d,none⟩) f.length a∧F b∧w.heap[b]? = some (.cells c T (0,0))∧
  f.length<=a∧d+a*e.sz<=c.size∧(c.toList.drop d).take (f.length*e.sz)=cellsOf e f)
def Ar {g:Type} (e:fQ g) (v:Value) (q:List g):bF where
 p w F:=FU e w F v q
 mono:=fun⟨i,j,h⟩ n=>⟨i,j,by
  rcases h with h|⟨b,d,a,T,c,o,m,f,r⟩
  ·exact .inl h
  ·obtain⟨k,l⟩:=n b m (zAa.1 f).1;exact .inr ⟨b,d,a,T,c,o,k,by rw[l];exact f,r⟩⟩
section
variable {α:Type} {e:fQ α} {w:World} {F:Nat->Prop} {v:Value} {xs:List α}
theorem FU.cell (h:FU e w F v xs) {i:Nat} {x:α} (c:xs[i]? = some x) {j:Nat} {u:Value} (l:(e.enc x)[j]? = some u):w.cell? (Nh v (i*e.sz+j))=some u:=by
 obtain⟨_,_,h⟩:=h;rcases h with⟨_,h⟩|⟨b,n,d,T,f,m,_,g,p,o,k⟩
 ·subst h;simp at c
 ·have a:=yO e xs i x c j u l;rw[<-k,zAs]at a;split at a
  ·rw[zAt]at a;subst m;simp only[Nh,fR];simp[World.cell?,g];simpa using a
  ·cases a
theorem Qm (h:FU e w F v xs) (g:xs≠[]) (o:Nat):w.frozen? (Nh v o)=false:=by
 obtain⟨_,_,h⟩:=h;rcases h with⟨_,h⟩|⟨b,i,a,T,c,f,_,d,_⟩
 ·exact absurd h g
 ·subst f;simp only[Nh,fR];simp[World.frozen?,d]
end
section
variable {P:Program} {rd:Option Nat} {c:xD} {n:Sz} {σ:Fr} {M L:List bF} {Q:Exit->Act->World->Prop} {ops:Array Oper} {rest:List Oper}
variable {d:Option Tmp} {D:Nat} {ty:TypeId} {pos:String} {aft:Array Edge} {g:Option (Nat×Bool)}
variable {α:Type} {e:fQ α}
theorem kP [dG P] (j:Nat) {T E:TypeId} {G H m I:Nat} {z J:Value} {q:TypeDesc} {x y:Operand} {v:Value} {i:Int} {o:List α} (C:ev σ x=some v) (F:ev σ y=some (.int .i64 i)) (B:M[j]? = some (Ar e v o))
  (A:dG.tab P T=some ⟨.slice E,G,H,z⟩) (u:dG.tab P E=some ⟨q,m,I,J⟩) (r:0<=i) (l:i<o.length):
  Y P c n σ M L ⟨d,.indexAddr T x y,ty,pos,aft,g⟩ (F_ v (i.toNat*m)):=λa w s t=>by
 obtain⟨S,_,_,h⟩:=t.res B;rcases h with⟨rfl,rfl⟩|⟨b,k,f,K,p,rfl,_⟩
 ·simp at l;omega
 ·simp[execOp,s.eval C,s.eval F,JH w (dG.ok A) Z (dG.ok u) b k _ f i r l]
theorem abf [dG P] [Inhabited α] (j:Nat) {T:TypeId} {C q o:Nat} {z:Value} {f:TypeDesc} {x:Operand} {v:Value} {i:Int} {b:List α} {u:Value} (B:ev σ x=some (F_ v (i.toNat*q+o))) (r:M[j]? = some (Ar e v b))
  (m:dG.tab P T=some ⟨f,1,C,z⟩) (p:zB f=false) (y:e.sz=q) (A:(e.enc (at' b i))[o]? = some u) (k:0<=i) (l:i<b.length):
  Y P c n σ M L ⟨d,.load T x,ty,pos,aft,g⟩ u:=λa w s t=>by
 obtain⟨S,h⟩:=t.res r;have:=FU.cell h (mJ k l) A;rw[y]at this;simp[execOp,s.eval B,F_,Az (dG.ok m) p this]
theorem Yf [dG P] [Inhabited α] (j:Nat) {T:TypeId} {t:Nat} {z:Value} {b:TypeDesc} {x:Operand} {v:Value} {i:Int} {a:List α} {u:Value} (s:ev σ x=some (F_ v (i.toNat*1))) (m:M[j]? = some (Ar e v a))
  (k:dG.tab P T=some ⟨b,1,t,z⟩) (l:zB b=false) (p:e.sz=1) (r:(e.enc (at' a i))[0]? = some u) (f:0<=i) (h:i<a.length):
  Y P c n σ M L ⟨d,.load T x,ty,pos,aft,g⟩ u:=abf j (q:=1) (o:=0) s m k l p r f h
theorem zF {a:List α} (f:e.sz=1) {i:Nat} {y:α} {u:Value} (h:e.enc y=[u]):cellsOf e (a.set i y)=(cellsOf e a).set i u:=by
 induction a generalizing i with
 |nil=>simp[cellsOf]
 | cons x a ih =>
  obtain⟨p,b⟩:∃p,e.enc x=[p]:=by
   have:=e.len x;rw[f]at this;exact List.length_eq_one_iff.1 this
  cases i with
  |zero=>simp[cellsOf,b,h]
  |succ i=>simp only[List.set_cons_succ,cellsOf,List.flatMap_cons,b,List.singleton_append]at *;rw[ih]
theorem take_set {a:Type} (l:List a) (k i:Nat) (u:a):(l.set i u).take k=(l.take k).set i u:=by
 rw[List.take_set]
theorem Qs [dG P] (j:Nat) {T:TypeId} {s2:Nat} {z:Value} {dT:TypeDesc} {x y:Operand} {v u:Value} {i:Int} {m:List α} (yv:α) (Y:ev σ x=some (F_ v (i.toNat*1))) (hy:ev σ y=some u) (X:e.enc yv=[u]) (A:one u=true)
  (V:M[j]? = some (Ar e v m)) (hT:dG.tab P T=some ⟨dT,1,s2,z⟩) (I:e.sz=1) (h0:0<=i) (U:i<m.length)
  (h:J c n σ (M.set j (Ar e v (m.set i.toNat yv))) L (wpList P ops Q rest)):
  J c n σ M L (wpList P ops Q (⟨none,.store T x y,ty,pos,aft,none⟩::rest)):=λa w s t=>by
 refine nZ Z ?_;obtain⟨F,H⟩:=t.res V;have W:i.toNat<m.length:=by omega
 have C:m[i.toNat]? = some m[i.toNat]:=zA0 W;have E:m≠[]:=by intro e;subst e;simp at W
 obtain⟨p,hp⟩:∃p,e.enc m[i.toNat]=[p]:=List.length_eq_one_iff.1 ((e.len _).trans I);have f:=FU.cell H C (j:=0) (u:=p) (by rw[hp];rfl);rw[I,Nat.add_zero,Nat.mul_one]at f;rw[Nat.mul_one]at Y;have o:=Qm H E i.toNat;have G:(execOp a.eval ⟨none,.store T x y,ty,pos,aft,none⟩).run P w = .ok .skip (w.setCell (Nh v i.toNat) u):=by
  simp only[execOp,s.eval Y,s.eval hy,F_];simp[Es (dG.ok hT) Z A f o]
 simp only[Oper.wp,G,Oper.upon];refine h _ _ s (t.upd V Z Z Z (by simp[World.setCell]) λF H _=> ?_);obtain⟨hl,U,O⟩:=H;rcases O with⟨_,O⟩|⟨b,l,r,T',K,hv,B,hb,hk,hc,ht⟩
 ·exact absurd O E
 ·subst hv;have ha:Nh (.slice (some ⟨b,l,none⟩) m.length r) i.toNat=⟨b,l+i.toNat,none⟩:=by simp[Nh,fR]
  rw[ha];refine⟨λk _ R=>Below.heap_setCell _ _ _ _ (λe=>R (by simp only at e;subst e;exact B)),F,⟨by simpa using hl,?_,.inr ⟨b,l,r,T',K.setIfInBounds (l+i.toNat) u,by simp,B,?_,by simpa using hk,by simpa using hc,?_⟩⟩,λ_ h=> .inl h⟩
  ·rw[zF I X,zA5];intro q S;rcases List.mem_or_eq_of_mem_set S with N|N
   ·exact zA5.1 U q N
   ·rw[N];exact A
  ·simp[World.setCell,Array.getElem?_modify,hb]
  ·rw[zF I X,<-ht,Array.toList_setIfInBounds,zA3,<-take_set];congr 1;rw[List.drop_set,if_neg (by omega),Nat.add_sub_cancel_left]
theorem St.allocAr {w:World} (t:St c M L w) (b:List Value) (T:TypeId) {a:List α} {k:Nat} (o:a.length=k) (r:a.length<=140737488355328) (l:b=cellsOf e a) (p:(cellsOf e a).all one=true):
  St c (Ar e (.slice (some ⟨w.heap.size,0,none⟩) k k) a::M) L (w.alloc (.cells b.toArray T)):=by
 have u:=t.alloc b T;obtain⟨s,F,f,q⟩:=u;refine⟨s,F,⟨λi m h=> ?_,f.rng,f.dis⟩,q⟩
 cases i with
 | zero =>
  simp at h;subst h;have j:=f.res 0 _ Z;refine⟨r,p,.inr ⟨w.heap.size,0,k,T,b.toArray,by rw[o],j.1,j.2,by omega,?_,?_⟩⟩
  ·simp only[Nat.zero_add,List.size_toArray,l,eZ,o];exact zAe _
  ·simp only[List.drop_zero,l];rw[List.take_of_length_le (by rw[eZ];exact zAe _)]
 |succ i=>exact f.res (i+1) m (by simpa using h)
theorem aI.buildSlice [dG P] {T E:TypeId} {k K N h O:Nat} {z A:Value} {F:TypeDesc} {m:List (Nat×Operand)} {l:List (Nat×Value)} (xs:List α)
    (C:dG.tab P T=some ⟨.slice E,K,N,z⟩) (v:dG.tab P E=some ⟨F,h,O,A⟩) (J:Nat.ble (k*h) 16777216=true) (r:m.map (λp=>(p.1,ev σ p.2))=l.map (λp=>(p.1,some p.2)))
    (f:∀j:Array Value,j.size=k*h->Instr.fill (λi=>some (i*h,h)) j l=some (cellsOf e xs).toArray)
    (H:xs.length=k) (I:Nat.ble xs.length 140737488355328=true) (G:(cellsOf e xs).all one=true):
    aI P c n σ M L ⟨d,.buildSlice T k m.toArray,ty,pos,aft,g⟩ (λb:Nat=> .slice (some ⟨b,0,none⟩) k k) (λb=>Ar e (.slice (some ⟨b,0,none⟩) k k) xs::M) (λ_=>L):=λa w s t=>by
  have x:m.map (λp=>(p.1,a.eval p.2))=l:=by
    clear f
    induction m generalizing l with
    |nil=>cases l<;>simp_all
    | cons p m ih =>
      cases l with
      |nil=>simp at r
      | cons q l =>
        simp only[zB8,List.cons.injEq,Prod.mk.injEq]at r;simp only[zB8,s.eval r.1.2,r.1.1,ih r.2]
  have y : ¬ (16777216 < k * h) := by
      have : k * h ≤ 16777216 := by simpa using J
      omega
  have o:(execOp a.eval ⟨d,.buildSlice T k m.toArray,ty,pos,aft,g⟩).run P w = .ok (.value (.slice (some ⟨w.heap.size,0,none⟩) k k)) (w.alloc (.cells (cellsOf e xs).toArray E)):=by
    simp only[execOp,List.map_toArray,x,Instr.buildSlice];by_cases B:k*h=0
    · have u:=f ((Array.range (k*h)).map ((#[]:Array Value)[· % (#[]:Array Value).size]!)) (by simp);simp[(dG.ok C).run_und w,(dG.ok v).run_size w,B]at u ⊢;simp[u,newRow]
    · have u:=f ((Array.range (k*h)).map (A.cells[· % A.cells.size]!)) (by simp);simp[(dG.ok C).run_und w,(dG.ok v).run_size w,(dG.ok v).run_zero w,B,y,u,newRow]
  simp only[Oper.wp,o,Oper.upon];exact⟨w.heap.size,rfl,t.allocAr (cellsOf e xs) E H (by simpa using I) Z G⟩
theorem aI.makeSlice [dG P] {T E:TypeId} {J K p q:Nat} {z j:Value} {r:TypeDesc} {x:Operand} {k:Int} (xs:List α)
  (B:dG.tab P T=some ⟨.slice E,J,K,z⟩) (A:dG.tab P E=some ⟨r,p,q,j⟩) (H:ev σ x=some (.int .i64 k)) (u:0<=k) (C:(q:Int)*k<=281474976710656) (y:k<=140737488355328)
  (F:xs.length=k.toNat) (I:(madeCells j.cells (k.toNat*p)).toList=cellsOf e xs) (v:(cellsOf e xs).all one=true):
  aI P c n σ M L ⟨d,.makeSlice T x x,ty,pos,aft,g⟩ (λb:Nat=> .slice (some ⟨b,0,none⟩) k.toNat k.toNat) (λb=>Ar e (.slice (some ⟨b,0,none⟩) k.toNat k.toNat) xs::M) (λ_=>L):=λa w s t=>by
 obtain⟨o,l,m,f,i⟩:=(dG.ok A).info;simp only at m f i;have G:=run_make (P:=P) w T E o j (dG.ok B).und l i .i64 .i64 k k u (Int.le_refl _) (by rw[f];exact C) (by omega);have h:(execOp a.eval ⟨d,.makeSlice T x x,ty,pos,aft,g⟩).run P w = .ok (.value (.slice (some ⟨w.heap.size,0,none⟩) k.toNat k.toNat)) (w.alloc (.cells (cellsOf e xs).toArray E)):=by
  simp only[execOp,s.eval H];have:madeCells j.cells (k.toNat*o.size)=(cellsOf e xs).toArray:=by rw[<-I,m]
  simp[G,this]
 simp only[Oper.wp,h,Oper.upon];exact⟨w.heap.size,rfl,t.allocAr (cellsOf e xs) E F (by omega) Z v⟩
theorem Sf {T ty E:TypeId} {s j:Ty} {w:World} (v:uB P T s) (z:s.desc = .slice E) (u:uB P E j) {b a k i:Nat} {f:Array Value} {r:TypeId} (y:w.heap[b]? = some (.cells f r (0,0))) {m:Nat} {x:Value} {p:List Value} (q:Src P j.size T x m p w)
  (h:k+m<=i) (A:a+i*j.size<=f.size):
  (Builtin.append_ #[T,T] ty #[.slice (some ⟨b,a,none⟩) k i,x]).run P w = .ok (.slice (some ⟨b,a,none⟩) (k+m) i) (w.setRow b (f.toList.take (a+k*j.size)++p++f.toList.drop (a+k*j.size+p.length)).toArray):=by
 have l:a+k*j.size+0+p.length<=f.size:=by
  rw[q.newsLen];have:=zB5 j.size h;rw[zB1]at this;omega
 have o:=run_storeCells_at P b (a+k*j.size) r p 0 f w y l q.one;simp only[Nat.add_zero]at o;have t:=v.run_und w;rw[z]at t;simp[Builtin.append_,t,u.run_size w,q.len,h,q.cells,fR,o]
theorem Sd {T ty E:TypeId} {q f:Ty} {w:World} (u:uB P T q) (y:q.desc = .slice E) (t:uB P E f) {base:Option Addr} {k a:Nat} {b:List Value}
  (i:(Builtin.firstCells f.size k (.slice base k a)).run P w.drew = .ok b.toArray w.drew) {m:Nat} {x:Value} {p:List Value} (z:Src P f.size T x m p w) (r:a<k+m) (v:(k+m)*f.bytes<=140737488355328) (s:k+m<=140737488355328):
  (Builtin.append_ #[T,T] ty #[.slice base k a,x]).run P w = .ok (.slice (some ⟨w.heap.size,0,none⟩) (k+m) (grownCap w (k+m) a E))
   (w.drew.alloc (.cells ((b++p).toArray++Builtin.zeroCells f.zero.cells (grownCap w (k+m) a E - (k+m))) E)):=by
 obtain⟨B,o,j,l,A⟩:=t.info;have h:=growslice_fits (need:=k+m) (old:=a) (bytes:=f.bytes) r v;exact run_append_grow_src w T T ty E B f.zero (by rw[u.und,y]) o A base k a b (by rw[j];exact i) x m p (by rw[j];exact z) r (by omega) (by rw[l];exact h)
theorem FU.src [dG P] {w:World} {F:Nat->Prop} {v:Value} {i:List α} {T E:TypeId} {s t:Nat} {z:Value} (h:FU e w F v i) (k:dG.tab P T=some ⟨.slice E,s,t,z⟩):Src P e.sz T v i.length (cellsOf e i) w:=by
 obtain⟨_,o,h⟩:=h;have f:∀u∈cellsOf e i,u.oneCell'=true:=λu a=>qG (zA5.1 o u a);rcases h with⟨rfl,rfl⟩|⟨b,r,l,x,m,rfl,_,p,A,y,q⟩
 ·exact Src.ofNil w (dG.ok k).und 0
 ·refine Src.ofSlice w (dG.ok k).und _ _ _ _ (eZ e i) (λj u a=> ?_) f;rw[<-q,zAs]at a;split at a
  ·rw[zAt]at a;rw[fR];simp[World.cell?,p];simpa using a
  ·cases a
theorem FU.old [dG P] {w:World} {F:Nat->Prop} {v:Value} {f:List α} (h:FU e w F v f):∃base a,v = .slice base f.length a∧(Builtin.firstCells e.sz f.length v).run P w.drew = .ok (cellsOf e f).toArray w.drew:=by
 obtain⟨_,r,h⟩:=h;rcases h with⟨rfl,rfl⟩|⟨b,q,a,m,k,rfl,_,o,t,s,p⟩
 ·exact⟨none,0,rfl,run_firstCells_none w.drew e.sz 0 0 0⟩
 ·refine⟨_,a,rfl,run_firstCells_some w.drew e.sz f.length _ _ _ _ (eZ e f) (λj u i=> ?_)⟩
  rw[<-p,zAs]at i;split at i
  ·rw[zAt]at i;rw[fR];have l:w.drew.heap[b]? = some (.cells k m (0,0)):=o;simp[World.cell?,l];simpa using i
  ·cases i
theorem WI (f:List Value) (b a:Nat) (i:List Value) (h:b+a+i.length<=f.length):
  ((f.take (b+a)++i++f.drop (b+a+i.length)).drop b).take (a+i.length)=(f.drop b).take a++i:=by
 have j:b+a - b=a:=by omega
 have k:((f.drop b).take a).length=a:=by simp;omega
 rw[zB9,List.drop_append_of_le_length (by simp;omega),List.drop_take,j,List.take_append,k,List.take_of_length_le (by omega)];have l:a+i.length - a=i.length:=by omega
 rw[l,List.take_append_of_le_length (zAe _),List.take_of_length_le (zAe _)]
structure agB (w w':World) (F F':Nat->Prop):Prop where
 os:w'.os=w.os
 tape:w'.tape=w.tape
 out:w'.output=w.output
 size:w.heap.size<=w'.heap.size
 same:∀k,k<w.heap.size->¬F k->w'.heap[k]? = w.heap[k]?
 sub:∀k,F' k->F k∨(w.heap.size<=k∧k<w'.heap.size)
theorem FU.append [dG P] {w:World} {F:Nat->Prop} {v x:Value} {xs ys:List α} {T E ty:TypeId} {s1 s2 S:Nat} {z V:Value} {W:TypeDesc} (j:FU e w F v xs) (y:Src P e.sz T x ys.length (cellsOf e ys) w) (A:(cellsOf e ys).all one=true)
  (G:dG.tab P T=some ⟨.slice E,s1,s2,z⟩) (B:dG.tab P E=some ⟨W,e.sz,S,V⟩) (X:(xs.length+ys.length)*S<=140737488355328) (K:xs.length+ys.length<=140737488355328) (hz:V.cells.size=e.sz):
  ∃U w' F',(Builtin.append_ #[T,T] ty #[v,x]).run P w = .ok U w'∧FU e w' F' U (xs++ys)∧agB w w' F F':=by
 have l:(cellsOf e (xs++ys)).all one=true:=by
  rw[zE,List.all_append,j.2.1,A];rfl
 obtain⟨base,f,rfl,t⟩:=FU.old (P:=P) j;by_cases a:xs.length+ys.length<=f
 ·have C:=j;obtain⟨_,_,hh⟩:=j;rcases hh with⟨O,rfl⟩|⟨b,p,R,T',i,O,q,r,u,Y,ht⟩
  ·cases O;have hy:ys=[]:=zAq (by simpa using a);subst hy;refine⟨.slice none 0 0,w,F,?_,C,⟨rfl,rfl,rfl,zAe _,λ_ _ _=>rfl,λ_ h=> .inl h⟩⟩
   have hu:=(dG.ok G).run_und w;have m:=y.len w;have o:=y.cells;simp only[List.length_nil]at m o;have H:cellsOf e ([]:List α)=[]:=rfl;rw[H]at o;simp[Builtin.append_,hu,(dG.ok B).run_size w,m,o]
  ·cases O;have N:=Sf (P:=P) (ty:=ty) (dG.ok G) Z (dG.ok B) r y a Y;have s:p+xs.length*e.sz+(cellsOf e ys).length<=i.toList.length:=by
    rw[eZ];have:=zB5 e.sz a;rw[zB1]at this;simp;omega
   refine⟨_,_,F,N,⟨by simpa using K,l,.inr ⟨b,p,f,T',_,by simp,q,setRow_heap w b _ _ T' _ r,by simpa using a,?_,?_⟩⟩,⟨rfl,rfl,rfl,by simp,λk _ J=>setRow_other w b k _ (λe=>J (by subst e;exact q)),λ_ h=> .inl h⟩⟩
   ·simp only[List.size_toArray,zAi,List.length_take,List.length_drop];have:i.size=i.toList.length:=by simp
    omega
   ·have:=WI i.toList p (xs.length*e.sz) (cellsOf e ys) s;rw[zAi,zB1,<-eZ e ys,zE,<-ht];exact this
 ·have N:=Sd (P:=P) (ty:=ty) (dG.ok G) Z (dG.ok B) t y (by omega) X K;have I:=grownCap_ge w (xs.length+ys.length) f E;refine⟨_,_,λk=>k=w.heap.size,N,⟨by simpa using K,l,.inr ⟨w.heap.size,0,grownCap w (xs.length+ys.length) f E,E,_,by simp,rfl,heap_alloc_new w.drew _,by simpa using I,?_,?_⟩⟩,
   ⟨rfl,rfl,rfl,by simp,λk u _=>Below.heap_alloc w.drew _ k u,λk u=> .inr ⟨by omega,by subst u;simp⟩⟩⟩
  ·simp only[Nat.zero_add,Array.size_append,List.size_toArray,zAi,eZ,size_zeroCells,hz];rw[<-zB1,<-zB1];exact zB5 _ (by omega)
  ·simp only[List.drop_zero,Array.toList_append,zAi];rw[<-zE,List.take_append_of_le_length (by rw[eZ];simp),List.take_of_length_le (by rw[eZ];simp)]
theorem St.append [dG P] {w:World} (t:St c M L w) {i:Nat} {v x:Value} {xs ys:List α} {T E ty:TypeId} {F G l:Nat} {z m:Value} {o:TypeDesc} (k:M[i]? = some (Ar e v xs)) (B:Src P e.sz T x ys.length (cellsOf e ys) w) (f:(cellsOf e ys).all one=true)
  (r:dG.tab P T=some ⟨.slice E,F,G,z⟩) (q:dG.tab P E=some ⟨o,e.sz,l,m⟩) (s:(xs.length+ys.length)*l<=140737488355328) (u:xs.length+ys.length<=140737488355328) (C:m.cells.size=e.sz):
  ∃b w',(Builtin.append_ #[T,T] ty #[v,x]).run P w = .ok b w'∧St c (M.set i (Ar e b (xs++ys))) L w':=by
 have H:=t;obtain⟨y,I,j,h⟩:=H;obtain⟨b,w',F',A,p,a⟩:=FU.append (ty:=ty) (j.res i _ k) B f r q s u C;refine⟨b,w',A,?_⟩
 exact KQ y j h k a.os a.tape a.out a.size a.same p a.sub
end
section
variable {P:Program} {rd:Option Nat} {c:xD} {n:Sz} {σ:Fr} {M L:List bF} {Q:Exit->Act->World->Prop} {ops:Array Oper} {rest:List Oper}
variable {d:Option Tmp} {D:Nat} {ty:TypeId} {pos:String} {aft:Array Edge} {g:Option (Nat×Bool)}
variable {α:Type} {e:fQ α}
theorem aI.alloc [dG P] {T:TypeId} {h:Ty} {cs:List Value} (i:dG.tab P T=some h) (j:h.zero.cells=cs.toArray):
  aI P c n σ M L ⟨d,.alloc T,ty,pos,aft,g⟩ (λb:Nat=> .pointer (some ⟨b,0,none⟩)) (λb=>bM b cs T::M) (λ_=>L):=λa w s t=>by
 have f:(execOp a.eval ⟨d,.alloc T,ty,pos,aft,g⟩).run P w = .ok (.value (.pointer (some ⟨w.heap.size,0,none⟩))) (w.alloc (.cells cs.toArray T)):=by
  simp[execOp,JG w (dG.ok i),j]
 simp only[Oper.wp,f,Oper.upon];exact⟨w.heap.size,rfl,t.alloc cs T⟩
theorem aI.box {T:TypeId} {x:Operand} {v:Value} {cs:List Value} (h:ev σ x=some v) (i:v.cells=cs.toArray):
  aI P c n σ M L ⟨d,.box T x,ty,pos,aft,g⟩ (λb:Nat=> .pointer (some ⟨b,0,none⟩)) (λb=>bM b cs T::M) (λ_=>L):=λa w s t=>by
 have f:(execOp a.eval ⟨d,.box T x,ty,pos,aft,g⟩).run P w = .ok (.value (.pointer (some ⟨w.heap.size,0,none⟩))) (w.alloc (.cells cs.toArray T)):=by
  simp[execOp,s.eval h,Instr.box,newVar,newRow,i]
 simp only[Oper.wp,f,Oper.upon];exact⟨w.heap.size,rfl,t.alloc cs T⟩
theorem aI.call {A:Type} {j:A->Value} {m k:A->List bF->List bF} {f:FuncId} {xs:List Operand} {vs:List Value} {b:Array TypeId} {q:List bF} (v:aS P f)
  (B:aY P f vs.toArray q j m k) (E:xs.map (ev σ)=vs.map some) (u:Bz L q) (p:∀x l,m x l=m x []++l) (o:∀x l,k x l=k x []++l):
  aI P c n σ M L ⟨d,.call ⟨.value (.func f),xs.toArray,b⟩,ty,pos,aft,g⟩ j (λx=>m x M) (λx=>k x L):=λa w s t=>by
 have i:(execOp a.eval ⟨d,.call ⟨.value (.func f),xs.toArray,b⟩,ty,pos,aft,g⟩).run P w = .ok (.enter f vs.toArray) w:=by
  have e:=evs s E;simp[execOp,resolve,Act.eval,Deferred.ofValue,invoke,v _ w,e]
 simp only[Oper.wp,i,Oper.upon];obtain⟨z,F,r,h⟩:=t;refine(B w (Gs c F) (λf y=>h f (u f y))).mono ?_;rintro e w' ⟨x,rfl,C⟩;refine⟨x,rfl,?_⟩
 rw[p,o];exact St.call z r h C
theorem Ep [dG P] {x y:Operand} {T:TypeId} {b f:Value} {a:Act} (s:Gt n σ a) (h:ev σ x=some b) (i:ev σ y=some f) (w:World):
  (execOp a.eval ⟨d,.call ⟨.builtin .append,#[x,y],#[T,T]⟩,ty,pos,aft,g⟩).run P w=((Builtin.append_ #[T,T] ty #[b,f]).run P w).andThen λv j=> .ok (.value v) j:=by
 simp[execOp,resolve,invoke,builtin,s.eval h,s.eval i]
theorem aI.append [dG P] (i j:Nat) {x y:Operand} {v u:Value} {xs ys:List α} {T E:TypeId} {N O f l:Nat} {z m:Value} {o:TypeDesc} (I:ev σ x=some v) (J:ev σ y=some u) (A:M[i]? = some (Ar e v xs)) (B:M[j]? = some (Ar e u ys))
  (k:dG.tab P T=some ⟨.slice E,N,O,z⟩) (q:dG.tab P E=some ⟨o,f,l,m⟩) (p:e.sz=f) (r:(xs.length+ys.length)*l<=140737488355328) (C:xs.length+ys.length<=140737488355328) (K:m.cells.size=f):
  aI P c n σ M L ⟨d,.call ⟨.builtin .append,#[x,y],#[T,T]⟩,ty,pos,aft,g⟩ (λb:Value=>b) (λb=>M.set i (Ar e b (xs++ys))) (λ_=>L):=λa w s t=>by
 subst p;obtain⟨F,h⟩:=t.res B;obtain⟨b,w',G,H⟩:=t.append (ty:=ty) A (FU.src h k) h.2.1 k q r C K;simp only[Oper.wp,Ep s I J w,G,Result.andThen_ok,Oper.upon];exact⟨b,rfl,H⟩
theorem OJ.src [dG P] {U:Type} {r:fT U} {w:World} {S:Nat->Prop} {v:Value} {F:List U} {T E:TypeId} {s1 s2:Nat} {z:Value} (h:OJ r w S v F) (N:dG.tab P T=some ⟨.slice E,s1,s2,z⟩) (hr:∀{w S l x},r.R w S l x->l.all one=true):
  ∃cs,Src P r.sz T v F.length cs w∧cs.all one=true∧cs.length=F.length*r.sz∧∀i x,F[i]? = some x->∃l,r.R w S l x∧∀j u,l[j]? = some u->cs[i*r.sz+j]? = some u:=by
 obtain⟨a,B,rfl,W,h⟩:=h;rcases h with rfl|⟨b,q,rfl,_,h⟩
 ·cases a with
  |none=>
   refine⟨[],?_,rfl,by simp,λi x m=>by simp at m⟩
   exact Src.ofNil w (dG.ok N).und B
  |some a=>
   refine⟨[],?_,rfl,by simp,λi x m=>by simp at m⟩
   exact Src.ofSlice w (dG.ok N).und a 0 B [] (by simp) (λj u f=>by simp at f) (λu f=>by simp at f)
 ·
  have O:∀(A:List U) (k:Nat),(∀i x,A[i]? = some x->∃l,(∀j e,l[j]? = some e->w.cell? ⟨b,q+((k+i)*r.sz+j),none⟩=some e)∧r.R w S l x)->
    ∃cs:List Value,cs.all one=true∧cs.length=A.length*r.sz∧(∀j u,cs[j]? = some u->w.cell? ⟨b,q+(k*r.sz+j),none⟩=some u)∧∀i x,A[i]? = some x->∃l,r.R w S l x∧∀j u,l[j]? = some u->cs[i*r.sz+j]? = some u:=by
   intro A
   induction A with
   |nil=>intro k _;exact⟨[],rfl,by simp,λj u f=>by simp at f,λi x m=>by simp at m⟩
   | cons y A ih =>
    intro k V;obtain⟨l,t,o⟩:=V 0 y Z;obtain⟨cs,G,H,J,K⟩:=ih (k+1) (λi x m=>by
     obtain⟨s,C,p⟩:=V (i+1) x (by simpa using m);refine⟨s,λj u f=> ?_,p⟩
     have:=C j u f;rwa[show k+(i+1)=k+1+i from by omega]at this)
    have I:=r.len o;refine⟨l++cs,by rw[List.all_append,hr o,G];rfl,by rw[zAi,H,I,zAj,zB1];omega,?_,?_⟩
    ·intro j u f;by_cases Y:j<l.length
     ·rw[zAd Y]at f;have:=t j u f;rwa[Nat.add_zero]at this
     ·rw[zAb (by omega)]at f;have:=J _ u f;rw[zB1,I]at this;rwa[show q+(k*r.sz+1*r.sz+(j - r.sz))=q+(k*r.sz+j)from by omega]at this
    ·intro i x m;cases i with
     |zero=>
      simp at m;subst m;refine⟨l,o,λj u f=> ?_⟩
      rw[zAd (by have:=bJ f;omega)];simpa using f
     |succ i=>
      obtain⟨s,p,X⟩:=K i x (by simpa using m);refine⟨s,p,λj u f=> ?_⟩
      rw[zAb (by rw[I,zB1];omega),I];rw[show(i+1)*r.sz+j - r.sz=i*r.sz+j from by rw[zB1];omega];exact X j u f
  obtain⟨cs,G,H,J,K⟩:=O F 0 (λi x m=>by
   obtain⟨l,t,o⟩:=h i x m;exact⟨l,λj u f=>by rw[Nat.zero_add];exact t j u f,o⟩)
  refine⟨cs,?_,G,H,K⟩
  refine Src.ofSlice w (dG.ok N).und _ _ _ _ H (λj u f=> ?_) (λu f=>qG (zA5.1 G u f));rw[fR];have:=J j u f;rwa[Nat.zero_mul,Nat.zero_add]at this
def fQ.Fits (e:fQ α) (r:fT α):Prop:=r.sz=e.sz∧(∀{w S es x},r.R w S es x->es=e.enc x)∧(∀{w S x},r.R w S (e.enc x) x)∧∀x,(e.enc x).all one=true
theorem HQ (k:IntKind):(fQ.int k).Fits (fT.int k):=⟨rfl,λh=>h,rfl,λ_=>rfl⟩
theorem QW {f:List Value} {a:List α} (v:f.length=a.length*e.sz) (h:∀i x,a[i]? = some x->∀j u,(e.enc x)[j]? = some u->f[i*e.sz+j]? = some u):f=cellsOf e a:=by
 apply List.ext_getElem?;intro k;by_cases t:k<a.length*e.sz
 ·have b:=e.pos;have s:k / e.sz<a.length:=Nat.div_lt_of_lt_mul (by rw[Nat.mul_comm];exact t);have w:k%e.sz<e.sz:=Nat.mod_lt _ b;have q:a[k / e.sz]? = some (a[k / e.sz]):=zA0 s;have o:=e.len a[k / e.sz];have p:(e.enc a[k / e.sz])[k%e.sz]? = some ((e.enc a[k / e.sz])[k%e.sz]'(by omega)):=zA0 _;have r:k / e.sz*e.sz+k%e.sz=k:=by rw[Nat.mul_comm];exact Nat.div_add_mod k e.sz
  have l:=h _ _ q _ _ p;have m:=yO e a _ _ q _ _ p;rw[r]at l m;rw[l,m]
 ·rw[zAr (by omega),zAr (by rw[eZ];omega)]
theorem QD [dG P] {r:fT α} (b:e.Fits r) {w:World} {S:Nat->Prop} {v:Value} {f:List α} {T E:TypeId} {G H:Nat} {z:Value} (h:OJ r w S v f) (q:dG.tab P T=some ⟨.slice E,G,H,z⟩):
  Src P e.sz T v f.length (cellsOf e f) w∧(cellsOf e f).all one=true:=by
 obtain⟨a,l,_,p⟩:=b;obtain⟨m,B,A,y,s⟩:=OJ.src h q (λ{w S o x} hr=>by rw[l hr];exact p x);have:m=cellsOf e f:=QW (by rw[y,a]) (λi x F j u C=>by
  obtain⟨o,k,t⟩:=s i x F;rw[<-a];exact t j u (by rw[l k];exact C))
 subst this;rw[<-a];exact⟨B,A⟩
theorem FU.sl {r:fT α} (a:e.Fits r) {w:World} {F:Nat->Prop} {v:Value} {l:List α} (h:FU e w F v l):OJ r w F v l:=by
 obtain⟨f,_,p,_⟩:=a;have o:=h;obtain⟨C,_,s⟩:=h;rcases s with⟨rfl,rfl⟩|⟨b,k,cap,T,m,rfl,q,z,B,A,E⟩
 ·exact⟨none,0,rfl,by simp,.inl Z⟩
 ·refine⟨_,cap,rfl,by omega,.inr ⟨b,k,rfl,q,λi x y=>⟨e.enc x,λj u t=> ?_,p⟩⟩⟩
  have:=FU.cell o y t;simp only[Nh,fR]at this;rw[f];exact this
def nH {α:Type} (e:fQ α) (vs:List Value) (xss:List (List α)):bF where
 p w F:=vs.length=xss.length∧∃G:Nat->Nat->Prop,(∀i v f,vs[i]? = some v->xss[i]? = some f->FU e w (G i) v f)∧(∀i k,G i k->F k)∧∀i j k,G i k->G j k->i=j
 mono:=by
  rintro w y S x ⟨s,G,m,h,o⟩ l;refine⟨s,λi k=>G i k∧k<w.heap.size,λi v f t u=>(Ar e v f).mono (m i v f t u) (λk a b=>⟨⟨a,b⟩,(l k (h i k a) b).2⟩),λi k a=>(l k (h i k a.1) a.2).1,λi j k q r=>o i j k q.1 r.1⟩
theorem St.merge {w:World} (t:St c M L w) (i j:Nat) {J K G:bF} (E:i≠j) (H:M[i]? = some J) (I:M[j]? = some K)
  (v:∀{w F1 F2},J.p w F1->K.p w F2->(∀k,F1 k->¬F2 k)->G.p w (λk=>F1 k∨F2 k)):St c ((M.set i G).eraseIdx j) L w:=by
 obtain⟨X,F,o,U⟩:=t;have V:=bJ H;have W:=bJ I;have T:=v (o.res i _ H) (o.res j _ I) (λk R S=>E (o.dis _ _ k R S));let l:Nat->Nat:=λq=>if q<j then q else q+1;refine⟨X,λq b=>q+1<M.length∧(F (l q) b∨(l q=i∧F j b)),⟨?_,?_,?_⟩,λf C=> ?_⟩
 ·intro q m v;have Y:=bJ v;rw[List.length_eraseIdx_of_lt (by simpa using W),zA3]at Y;have x:q+1<M.length:=by omega
  have u:(M.set i G)[l q]? = some m:=by
   rw[List.getElem?_eraseIdx]at v;simp only[l];split
   ·rename_i B;rwa[if_pos B]at v
   ·rename_i B;rwa[if_neg B]at v
  by_cases A:l q=i
  ·rw[A,zAm V]at u;cases u;refine bF.same T (λb a=>⟨x,?_⟩) (λ_ _ _=>rfl);rcases a with a|a
   ·exact .inl (by rw[A];exact a)
   ·exact .inr ⟨A,a⟩
  ·rw[zAy (Ne.symm A)]at u;exact bF.same (o.res (l q) m u) (λb a=>⟨x,.inl a⟩) (λ_ _ _=>rfl)
 ·rintro q b ⟨_,a|⟨_,a⟩⟩
  ·exact o.rng _ b a
  ·exact o.rng _ b a
 ·have z:∀q,l q≠j:=by intro q;simp only[l];split<;>omega
  have y:∀q r,l q=l r->q=r:=by intro q r;simp only[l];split<;>split<;>omega
  rintro q r b ⟨_,a|⟨N,a⟩⟩ ⟨_,s|⟨O,s⟩⟩
  ·exact y _ _ (o.dis _ _ b a s)
  ·exact absurd (o.dis _ _ b a s) (z q)
  ·exact absurd (o.dis _ _ b s a) (z r)
  ·exact y _ _ (N.trans O.symm)
 ·exact bF.same (U f C) (λb a=>⟨a.1,by
   rintro q ⟨_,h|⟨_,h⟩⟩
   ·exact a.2 _ h
   ·exact a.2 _ h⟩) (λ_ _ _=>rfl)
theorem XN (i j:Nat) {u:Value} {k:Int} {z:List Value} {v:List (List α)} {F:List α} {G:Act->World->Prop} (C:Nat.beq i j=false) (U:M[i]? = some (nH e z v)) (V:M[j]? = some (Ar e u F)) (X:0<=k) (Y:k<z.length)
  (h:J c n σ ((M.set i (nH e (z.set k.toNat u) (v.set k.toNat F))).eraseIdx j) L G):J c n σ M L G:=λa w s t=>
 h a w s (t.merge i j (λe=>by subst e;simp at C) U V (by
  rintro w W O ⟨p,G,R,B,S⟩ T K;have E:k.toNat<z.length:=by omega
  refine⟨by simp[p],λr b=>(r=k.toNat∧O b)∨(r≠k.toNat∧G r b),?_,?_,?_⟩
  ·intro r N q l m;by_cases A:r=k.toNat
   ·subst A;rw[zAm E]at l;rw[zAm (by omega)]at m;cases l;cases m;exact bF.same (f:=Ar e u F) T (λb o=> .inl ⟨rfl,o⟩) (λ_ _ _=>rfl)
   ·rw[zAy (Ne.symm A)]at l m;exact bF.same (f:=Ar e N q) (R r N q l m) (λb o=> .inr ⟨A,o⟩) (λ_ _ _=>rfl)
  ·rintro r b (⟨_,o⟩|⟨_,o⟩)
   ·exact .inr o
   ·exact .inl (B r b o)
  ·rintro r1 r2 b (⟨H,x⟩|⟨H,x⟩) (⟨I,y⟩|⟨I,y⟩)
   ·rw[H,I]
   ·exact absurd x (K b (B _ b y))
   ·exact absurd y (K b (B _ b x))
   ·exact S _ _ b x y))
theorem adu {r:fT α} (h:e.Fits r) {v:Value} {f:List Value} {a:List (List α)} {w:World} {z A:Nat->Prop} (B:(Ar fQ.raw v f).p w z) (K:(nH e f a).p w A):OJ (fT.sl r) w (λk=>z k∨A k) v (f.zip a):=by
 obtain⟨i,G,I,J,_⟩:=K;have F:(f.zip a).length=f.length:=by simp[i]
 have o:=B;obtain⟨V,_,N⟩:=B;rcases N with⟨rfl,rfl⟩|⟨b,y,m,T,H,rfl,s,S,C,U,W⟩
 ·exact⟨none,0,rfl,by simp,.inl Z⟩
 ·refine⟨_,m,by rw[F],by rw[F];omega,.inr ⟨b,y,rfl,.inl s,λq x l=> ?_⟩⟩
  have E:f[q]? = some x.1:=by rw[List.getElem?_zip_eq_some]at l;exact l.1
  have t:a[q]? = some x.2:=by rw[List.getElem?_zip_eq_some]at l;exact l.2
  refine⟨[x.1],λR u O=> ?_,rfl,?_⟩
  ·have:=FU.cell o E (j:=R) (u:=u) O;simp only[Nh,fR]at this;exact this
  ·exact(Sl r x.1 x.2).mono (FU.sl h (I q _ _ E t)) (λk C _=>⟨.inr (J _ k C),rfl⟩)
def aex (p:Prop):bF:=⟨λ_ _=>p,λh _=>h⟩
theorem aeu {p:Prop} {G:Act->World->Prop} (b:aex p∈L) (h:p->J c n σ M L G):J c n σ M L G:=λa w s t=>h (by obtain⟨_,f⟩:=t.fact b;exact f) a w s t
end
theorem mixedOrders:Go.Proofs.Tryz.prog.follows .mixedOrders=true:=by kernel_rfl
section
variable {P:Program} {rd:Option Nat} {c:xD} {n:Sz} {σ:Fr} {M L:List bF} {Q:Exit->Act->World->Prop} {ops:Array Oper} {rest:List Oper}
theorem BG {d:Option Tmp} {j:TypeId} {h:String} {e:Array Edge} {g:Option (Nat×Bool)} {T:TypeId} {ps:List (Nat×Operand)} {vs:List (Nat×Value)} {r:Value} (b:ps.map (λp=>(p.1,ev σ p.2))=vs.map (λp=>(p.1,some p.2)))
  (i:∀w,(Instr.build T vs.toArray).run P w = .ok r w):Y P c n σ M L ⟨d,.build T ps.toArray,j,h,e,g⟩ r:=λa w s _=>by
 have f:ps.map (λp=>(p.1,a.eval p.2))=vs:=by
  clear i
  induction ps generalizing vs with
  |nil=>cases vs<;>simp_all
  | cons p ps ih =>
   cases vs with
   |nil=>simp at b
   |cons q vs=>
    simp only[zB8,List.cons.injEq,Prod.mk.injEq]at b;simp only[zB8,s.eval b.1.2,b.1.1,ih b.2]
 simp only[execOp,List.map_toArray,f];simp[i w]
theorem Fc {d:Option Tmp} {f:TypeId} {b:String} {a:Array Edge} {g:Option (Nat×Bool)} {T:TypeId} {r:Value} (e:∀w,(Instr.build T ([]:List (Nat×Value)).toArray).run P w = .ok r w):Y P c n σ M L ⟨d,.build T #[],f,b,a,g⟩ r:=
 BG (ps:=[]) (vs:=[]) (by simp) e
theorem Yd {d:Option Tmp} {k:TypeId} {e:String} {b:Array Edge} {g:Option (Nat×Bool)} {T:TypeId} {a:Nat} {h:Operand} {f:Value} {r:Value} (i:ev σ h=some f) (j:∀w,(Instr.build T ([(a,f)]:List (Nat×Value)).toArray).run P w = .ok r w):Y P c n σ M L ⟨d,.build T #[(a,h)],k,e,b,g⟩ r:=
 BG (ps:=[(a,h)]) (vs:=[(a,f)]) (by simp[i]) j
theorem DU {d:Option Tmp} {p:TypeId} {f:String} {e:Array Edge} {g:Option (Nat×Bool)} {T:TypeId} {a b:Nat} {j k:Operand} {h i:Value} {r:Value} (l:ev σ j=some h) (m:ev σ k=some i) (o:∀w,(Instr.build T ([(a,h),(b,i)]:List (Nat×Value)).toArray).run P w = .ok r w):Y P c n σ M L ⟨d,.build T #[(a,j),(b,k)],p,f,e,g⟩ r:=
 BG (ps:=[(a,j),(b,k)]) (vs:=[(a,h),(b,i)]) (by simp[l,m]) o
theorem Ye {d:Option Tmp} {u:TypeId} {h:String} {f:Array Edge} {g:Option (Nat×Bool)} {T:TypeId} {a b e:Nat} {l m o:Operand} {i j k:Value} {r:Value} (p:ev σ l=some i) (q:ev σ m=some j) (s:ev σ o=some k) (t:∀w,(Instr.build T ([(a,i),(b,j),(e,k)]:List (Nat×Value)).toArray).run P w = .ok r w):Y P c n σ M L ⟨d,.build T #[(a,l),(b,m),(e,o)],u,h,f,g⟩ r:=
 BG (ps:=[(a,l),(b,m),(e,o)]) (vs:=[(a,i),(b,j),(e,k)]) (by simp[p,q,s]) t
theorem LB {d:Option Tmp} {z:TypeId} {i:String} {h:Array Edge} {g:Option (Nat×Bool)} {T:TypeId} {a b e f:Nat} {o p q s:Operand} {j k l m:Value} {r:Value} (t:ev σ o=some j) (u:ev σ p=some k) (v:ev σ q=some l) (x:ev σ s=some m) (y:∀w,(Instr.build T ([(a,j),(b,k),(e,l),(f,m)]:List (Nat×Value)).toArray).run P w = .ok r w):Y P c n σ M L ⟨d,.build T #[(a,o),(b,p),(e,q),(f,s)],z,i,h,g⟩ r:=
 BG (ps:=[(a,o),(b,p),(e,q),(f,s)]) (vs:=[(a,j),(b,k),(e,l),(f,m)]) (by simp[t,u,v,x]) y
theorem eQ (cs:Array Value):(Value.agg cs).cells=cs:=rfl
end
section
variable {P:Program} {rd:Option Nat} {c:xD} {n:Sz} {σ:Fr} {M L:List bF} {Q:Exit->Act->World->Prop} {l:List Oper} {m:List Nat} {k0:Nat} {H Bs:List (Nat×List bF×List bF)} {rest:List Nat}
theorem XO {e:Array Oper} {rest:List Oper} {d g:Nat} {r:Op} {u:TypeId} {i:String} {f:Array Edge} {j:Nat} {b:Bool}
  (p:(e[j]?).bind (·.dst)=some g:=by exact rfl) (o:lk σ g=some undef:=by exact rfl) (k:Nat.blt d n.sz=true:=by exact rfl) (h:J c n ((d,undef)::σ) M L (wpList P e Q rest)):
  J c n σ M L (wpList P e Q (⟨some d,r,u,i,f,some (j,b)⟩::rest)):=λa w s t=>by
 have q:yielded e a.tmps j=none:=by
  unfold yielded;rw[p,Option.bind_some,s.slot g _ o];rfl
 unfold wpList;rw[if_neg (by simp[Region.wanted,q])];exact h _ w (s.put d undef k) t
theorem zBe {r:List Nat} (e:List.range l.length=r) (h:JR c n σ M L H Bs (RW P l.toArray Q (before m) (dW l) k0 r)):JR c n σ M L H Bs (RW P l.toArray Q (before m) (dW l) k0 (List.range l.length)):=by rw[e];exact h
end
theorem Ts {c:Array Oper} {x y:Oper} (h:x.apart c y=true):y.apart c x=true:=by
 obtain⟨g,i,j⟩:=Oper.apart_spec h;unfold Oper.apart;rw[zA4];constructor
 ·cases f:y.dst with
  |none=>rfl
  |some d=>
   have a:=j d f;have b:x.dst≠some d:=λe=>i d e (by rw[f]);simp[a,b]
 ·cases k:x.dst with
  |none=>rfl
  |some d=>simp[g d k]
def afh (l:List Oper) (m:List Nat) (a:Nat):Bool:=
  (List.range l.length).all λi=>match l[i]? with
    |none=>false
    | some o =>
      (wA o).all (λe=>Nat.blt e i&&before m i e) &&
      (List.range l.length).all (λk=> !before m i k||(Nat.blt k i&&(wA o).any (λe=>Nat.beq e k||before m e k))) &&
      !Dr o.op &&
      (if Nat.ble a i then(List.range i).all (λx=>before m i x)
       else(List.range i).all (λx=>before m i x||(match l[x]? with|none=>false|some b=>b.apart l.toArray o)))
structure aaV (l:List Oper) (m:List Nat) (k0:Nat):Prop where
 edge:∀(i:Nat) (o:Oper),l[i]? = some o->∀e∈wA o,e<i∧before m i e=true
 trans:∀(i:Nat) (o:Oper),l[i]? = some o->∀k,before m i k=true->k<l.length->k<i∧∃e∈wA o,e=k∨before m e k=true
 sel:∀(i:Nat) (o:Oper),l[i]? = some o->∀cs b,o.op ≠ .select cs b
 tail:∀i x,i<l.length->k0<=i->x<i->before m i x=true
 ind:∀(i x:Nat) (oi ox:Oper),l[i]? = some oi->l[x]? = some ox->i<k0->x<i->before m i x=false->ox.apart l.toArray oi=true
theorem WE {l:List Oper} {m:List Nat} {q:Nat} (h:afh l m q=true):aaV l m q:=by
  have a:∀(i:Nat) (o:Oper),l[i]? = some o->
      ((wA o).all (λe=>Nat.blt e i&&before m i e)=true)∧
      ((List.range l.length).all (λk=> !before m i k||(Nat.blt k i&&(wA o).any (λe=>Nat.beq e k||before m e k)))=true)∧Dr o.op=false∧
      ((if Nat.ble q i then(List.range i).all (λx=>before m i x)
       else(List.range i).all (λx=>before m i x||(match l[x]? with|none=>false|some r=>r.apart l.toArray o)))=true):=by
    intro i o c;have:=zA5.1 h i (zAf.2 (bJ c));simp only[c,zA4,Bool.not_eq_true']at this;exact⟨this.1.1.1,this.1.1.2,this.1.2,this.2⟩
  refine⟨?_,?_,?_,?_,?_⟩
  · intro i o c e j;have:=zA5.1 (a i o c).1 e j;simp only[zA4,zAw]at this;exact this
  · intro i o c k g d;have:=zA5.1 (a i o c).2.1 k (zAf.2 d);simp only[g,Bool.not_true,Bool.false_or,zA4,zAw,List.any_eq_true,zAx]at this;obtain⟨s,e,j,f⟩:=this;refine⟨s,e,j,?_⟩
    rcases f with f|f
    · exact .inl (zA2 f)
    · exact .inr f
  · intro i o c v b e;have:=(a i o c).2.2.1;rw[e]at this;cases this
  · intro i x n g p;obtain⟨o,c⟩:∃o,l[i]? = some o:=⟨_,zA0 n⟩
    have:=(a i o c).2.2.2;rw[if_pos (by simpa using g)]at this;exact zA5.1 this x (zAf.2 p)
  · intro i x u r n p g d t;have:=(a i u n).2.2.2;rw[if_neg (by simpa using g)]at this;have:=zA5.1 this x (zAf.2 d);simp only[t,Bool.false_or,p]at this;exact this
def Lin (l:List Oper):Array Bool->List Nat->Prop
 |listed,[]=>∀i,i<l.length->listed.getD i true=true
 |listed,i::s=>i∈Region.ready .any l.toArray listed∧Lin l (listed.setIfInBounds i true) s
def left (l:List Oper) (a:Array Bool):List Nat:=(List.range l.length).filter λi=> !a.getD i true
theorem mem_left {l:List Oper} {a:Array Bool} {i:Nat}:i∈left l a↔i<l.length∧a.getD i true=false:=by
 unfold left;rw[List.mem_filter,zAf];constructor
 ·rintro⟨b,c⟩;exact⟨b,by simpa using c⟩
 ·rintro⟨b,c⟩;exact⟨b,by rw[c];rfl⟩
theorem Zp {l:List Oper} {a:Array Bool} (c:a.size=l.length) {i:Nat} (d:i∈left l a):(left l (a.setIfInBounds i true)).length<(left l a).length:=by
 have b:=(mem_left.1 d).1;have:left l (a.setIfInBounds i true)=(left l a).filter (λj=> !(j==i)):=by
  unfold left;rw[List.filter_filter];apply List.filter_congr;intro j f;by_cases e:i=j
  ·subst e;simp[c,b]
  ·rw[getD_set_ne true e];have:(j==i)=false:=by simpa using λh=>e h.symm
   simp[this]
 rw[this];apply List.length_filter_lt_length_iff_exists.2;exact⟨i,d,by simp⟩
theorem afP {l:List Oper} {m:List Nat} {A:Nat} (hc:aaV l m A):∀(b t:Nat) (a:Array Bool),(left l a).length<=b->a.size=l.length->Lin l a (Region.linearise.go .any l.toArray b t a []):=by
 intro b
 induction b with
 | zero =>
  intro t a k f;simp only[Region.linearise.go,List.reverse_nil,Lin];intro i g;cases h:a.getD i true with
  |true=>rfl
  |false=>
   have:=mem_left.2 ⟨g,h⟩;have c:left l a=[]:=zAq (by omega);rw[c]at this;simp at this
 | succ b ih =>
  intro t a k f;simp only[Region.linearise.go];change Lin l a (match (Region.ready .any l.toArray a)[t%(Region.ready .any l.toArray a).length]? with
   |some i=>Region.linearise.go .any l.toArray b (t / (Region.ready .any l.toArray a).length) (a.setIfInBounds i true) [i]
   |none=>[].reverse)
  cases g:(Region.ready .any l.toArray a)[t%(Region.ready .any l.toArray a).length]? with
  | none =>
   have c:Region.ready .any l.toArray a=[]:=by
    cases z:Region.ready .any l.toArray a with
    |nil=>rfl
    |cons x u=>
     rw[z]at g;have d:t%(x::u).length<(x::u).length:=Nat.mod_lt _ (by simp);simp at g;simp at d;omega
   simp only[List.reverse_nil,Lin];intro i
   induction i using Nat.strongRecOn with
   | _ i ihi =>
    intro d;cases h:a.getD i true with
    |true=>rfl
    | false =>
     exfalso;obtain⟨o,n⟩:∃o,l[i]? = some o:=⟨_,zA0 d⟩
     have:i∈Region.ready .any l.toArray a:=by
      refine mem_ready.2 ⟨h,o,by simpa using n,λe y w=> ?_⟩;have p:e.on∈wA o:=zAn.2 ⟨e,List.mem_filter.2 ⟨by simpa using y,w⟩,rfl⟩;have q:=(hc.edge i o n e.on p).1;have s:=ihi e.on q (by omega);have:e.on<a.size:=by omega
      simp[this]at s ⊢;exact s
     rw[c]at this;simp at this
  |some i=>
   simp only[];rw[linearise_go_acc,List.reverse_singleton,List.singleton_append];have j:=zAv g;refine⟨j,ih _ _ ?_ (by simp[f])⟩
   obtain⟨v,o,n,_⟩:=mem_ready.1 j;have r:i∈left l a:=mem_left.2 ⟨by have:=(zAa.1 n).1;simpa using this,v⟩;have:=Zp f r;omega
section
variable {P:Program} {Q:Exit->Act->World->Prop} {l:List Oper} {m:List Nat} {k0:Nat}
theorem XW (hc:aaV l m k0):∀(s:List Nat) (L:List Nat) (c:Array Bool) (a:Act) (w:World) (H:List (Nat×World)) (Bs:List (Nat×(World->Prop))),
  Lin l c s->c.size=l.length->L.Nodup->L.Pairwise (λx i=>before m x i=false)->(∀i,i∈L↔i<l.length∧c.getD i true=false)->
  (∀j k,c.getD j false=true->before m j k=true->k<l.length->c.getD k false=true)->L.filter (dW l)=s.filter (dW l)->
  RW P l.toArray Q (before m) (dW l) k0 L a w H Bs->Nf P l.toArray Q s a w:=by
 intro s
 induction s with
 | nil =>
  intro L c a w H Bs C ac ai ak n T K h;have hL:L=[]:=by
   cases L with
   |nil=>rfl
   |cons i L=>
    have:=(n i).1 zA7;rw[C i this.1]at this;cases this.2
  subst hL;exact h
 | cons i s ih =>
  intro L c a w H Bs C ac ai ak n T K h;obtain⟨hi,X⟩:=C;obtain⟨h0,o,aj,U⟩:=mem_ready.1 hi;have ho:l[i]? = some o:=by simpa using aj
  have Y:i<l.length:=bJ ho;have aq:i∈L:=(n i).2 ⟨Y,h0⟩;obtain⟨p,L2,rfl⟩:=List.append_of_mem aq;have q:=List.nodup_append.1 ai;have M:i∉p:=λd=>(q.2.2 i d i zA7) Z;have ap:i∉L2:=(zB6.1 q.2.1).1;have u:=List.pairwise_append.1 ak;have J:∀x∈p,before m x i=false:=λx d=>u.2.2 x d i zA7;have N:∀k,before m i k=true->k<l.length->c.getD k false=true:=by
   intro k hk ah;obtain⟨_,e,he,V⟩:=hc.trans i o ho k hk ah;obtain⟨ed,an,rfl⟩:=zAn.1 he;obtain⟨ae,af⟩:=List.mem_filter.1 an;have hl:=U ed (by simpa using ae) af;rcases V with rfl|V
   ·exact hl
   ·exact T _ _ hl V ah
  have aa:∀x∈p,before m i x=false:=by
   intro x d;cases hb:before m i x with
   |false=>rfl
   |true=>
    have t:=((n x).1 (by simp[d]))
    have:=N x hb t.1;have au:x<c.size:=by omega
    simp[au]at this t;rw[this]at t;simp at t
  have D:dW l i=true->∀x∈p,dW l x=false:=by
   intro g x d;rw[List.filter_append,List.filter_cons_of_pos g,List.filter_cons_of_pos g]at K;cases ar:dW l x with
   |false=>rfl
   | true =>
    exfalso;have hm:x∈p.filter (dW l):=List.mem_filter.2 ⟨d,ar⟩;cases hL:p.filter (dW l)with
    |nil=>rw[hL]at hm;simp at hm
    |cons y ys=>
     rw[hL,List.cons_append]at K;have:y=i:=(List.cons.inj K).1;have hy:y∈p.filter (dW l):=by rw[hL];exact zA7
     rw[this]at hy;exact M (List.mem_filter.1 hy).1
  have ao:(p++L2).filter (dW l)=s.filter (dW l):=by
   rw[List.filter_append]at K ⊢;cases g:dW l i with
   |false=>rw[List.filter_cons_of_neg (by rw[g];simp),List.filter_cons_of_neg (by rw[g];simp)]at K;exact K
   |true=>
    have hn:p.filter (dW l)=[]:=List.filter_eq_nil_iff.2 (λx d=>by rw[D g x d];simp);rw[List.filter_cons_of_pos g,List.filter_cons_of_pos g,hn]at K;rw[hn];exact(List.cons.inj K).2
  have next:∀G I H' S,RW P l.toArray Q (before m) (dW l) k0 (p++L2) G I H' S->Nf P l.toArray Q s G I:=by
   intro G I H' S hr;refine ih (p++L2) _ G I H' S X (by simp[ac]) ?_ ?_ ?_ ?_ ao hr
   ·exact List.nodup_append.2 ⟨q.1,(zB6.1 q.2.1).2,λx d y hy=>q.2.2 x d y (zAh _ hy)⟩
   ·exact List.pairwise_append.2 ⟨u.1,(List.pairwise_cons.1 u.2.1).2,λx d y hy=>u.2.2 x d y (zAh _ hy)⟩
   ·intro j;by_cases e:i=j
    ·subst e;constructor
     ·intro f;rcases List.mem_append.1 f with f|f
      ·exact absurd f M
      ·exact absurd f ap
     ·rintro⟨_,f⟩;simp[ac,Y]at f
    ·rw[getD_set_ne true e];have:=n j;simp only[List.mem_append,zAk]at this ⊢;constructor
     ·intro f;exact this.1 (by rcases f with f|f;exact .inl f;exact .inr (.inr f))
     ·intro f;rcases this.2 f with f|rfl|f
      ·exact .inl f
      ·exact absurd Z e
      ·exact .inr f
   ·intro j k f ag hk;by_cases e:i=j
    ·subst e;exact getD_set_true (N k ag hk)
    ·rw[getD_set_ne false e]at f;exact getD_set_true (T j k f ag hk)
  have E:l.toArray[i]? = some o:=aj;rw[Uv];have F:∀x∈p,x<l.length:=λx d=>((n x).1 (by simp[d])).1;by_cases hk:k0<=i
  ·have ad:p=[]:=by
    cases p with
    |nil=>rfl
    |cons x p=>
     exfalso;have z:=aa x zA7;have A:=J x zA7;have d:=F x zA7;rcases zB0 x i with r|r|r
     ·rw[hc.tail i x Y hk r]at z;cases z
     ·exact M (by rw[<-r];exact zA7)
     ·rw[hc.tail x i d (by omega) r]at A;cases A
   subst ad;simp only[List.nil_append,RW,E]at h;unfold wpOp;simp only[E];split
   ·rename_i hw;rw[if_pos hw]at h;rcases h with⟨_,h|h⟩|⟨h,_⟩|⟨h,_⟩
    ·exact .inl (Oper.wp_mono (λG I hr=>next G I _ _ hr) h)
    ·exact .inr (Oper.rnd_mono (λG I hr=>next G I _ _ hr) h)
    ·omega
    ·omega
   ·rename_i hw;rw[if_neg hw]at h;exact next _ _ _ _ h
  ·have W:i<k0:=by omega
   have O:∀x∈p,Lq l.toArray (before m) (dW l) x i∧x<k0:=by
    intro x d;have t:=F x d;obtain⟨ox,ab⟩:∃ox,l[x]? = some ox:=⟨_,zA0 t⟩
    have al:x<k0:=by
     rcases zAp x k0 with r|r
     ·exact r
     ·have:=J x d;rw[hc.tail x i t r (by omega)]at this;cases this
    have am:ox.apart l.toArray o=true:=by
     rcases zB0 x i with r|r|r
     ·exact hc.ind i x o ox ho ab W r (aa x d)
     ·exact absurd (by rw[<-r];exact d) M
     ·exact Ts (hc.ind x i ox o ab ho al r (J x d))
    refine⟨⟨aa x d,J x d,?_,?_⟩,al⟩
    ·intro aw av z A;have e1:ox=aw:=by simpa [ab]using z
     have e2:o=av:=by simpa [ho]using A
     rw[<-e1,<-e2];exact am
    ·cases g:dW l i with
     |false=>exact .inr Z
     |true=>exact .inl (D g x d)
   have R:∀(i:Nat) (o:Oper),l.toArray[i]? = some o->∀cs b,o.op ≠ .select cs b:=λi o h=>hc.sel i o (by simpa using h);unfold wpOp;simp only[E];cases hl:dW l i with
   | false =>
    rcases GM R E W hl p a w H Bs O h with⟨z,A⟩|⟨z,v,B,⟨hb,_,hr⟩,A⟩
    ·rw[z];exact next _ _ _ _ A
    ·rw[z];exact .inl (by simp only[Oper.wp,hr w hb,Oper.upon];exact next _ _ _ _ A)
   | true =>
    rcases HV R E W hl p a w H Bs O h with⟨z,A⟩|⟨z,A⟩
    ·rw[z];exact next _ _ _ _ A
    ·rw[z];exact .inl (My (qF (λG I hh=>next G I _ _ hh.2) A))
def Ee (x:Nat):List Nat->List (List Nat)
 | []=>[[x]]
 |y::ys=>(x::y::ys)::(Ee x ys).map (y::·)
def yM:List Nat->List (List Nat)
 | []=>[[]]
 |x::xs=>(yM xs).flatMap (Ee x)
theorem Hx (x:Nat) (b:List Nat):∀a:List Nat,a++x::b∈Ee x (a++b)
 | []=>by cases b<;>simp[Ee]
 |y::a=>by
  simp only[List.cons_append,Ee,zAk,zAn];exact .inr ⟨_,Hx x b a,rfl⟩
theorem GW:∀(l s:List Nat),s.Perm l->s∈yM l
 | [],s,h=>by simp[yM,h.eq_nil]
 | x :: l, s, h => by
  have d:x∈s:=h.symm.subset zA7;obtain⟨a,b,rfl⟩:=List.append_of_mem d;have c:(a++b).Perm l:=by
   have:(x::(a++b)).Perm (x::l):=(List.perm_middle.symm).trans h;exact(List.perm_cons x).1 this
  simp only[yM,List.mem_flatMap];exact⟨a++b,GW l _ c,Hx x b a⟩
def pw (m:List Nat):List Nat->Bool
 | []=>true
 |x::L=>L.all (λi=> !before m x i && !Nat.beq x i)&&pw m L
theorem VF (m:List Nat):∀L:List Nat,pw m L=true->L.Nodup∧L.Pairwise (λx i=>before m x i=false)
 | [],_=>⟨List.nodup_nil,List.Pairwise.nil⟩
 |x::L,h=>by
  simp only[pw,zA4]at h;obtain⟨b,c⟩:=VF m L h.2;have a:=zA5.1 h.1;refine⟨zB6.2 ⟨λe=> ?_,b⟩,List.pairwise_cons.2 ⟨λi d=> ?_,c⟩⟩
  ·have:=a x e;simp at this
  ·have:=a i d;simp only[zA4,Bool.not_eq_true']at this;exact this.1
def Q_ (l:List Oper) (m:List Nat) (LL:List (List Nat)):Bool:=
 (LL.all λL=>pw m L&&L.all (λi=>Nat.blt i l.length)&&(List.range l.length).all (λi=>L.contains i)) &&
 ((yM ((List.range l.length).filter (dW l))).all λs=> !pw m s||LL.any λL=>L.filter (dW l)==s)
theorem NF {hc:aaV l m k0}:∀(s:List Nat) (a:Array Bool),a.size=l.length->Lin l a s->
  (∀j k,a.getD j false=true->before m j k=true->k<l.length->a.getD k false=true)->
  s.Nodup∧(∀i,i∈s↔i<l.length∧a.getD i true=false)∧s.Pairwise (λx i=>before m x i=false)
 | [],a,_,h,_=>⟨List.nodup_nil,λi=>⟨λB=>by simp at B,fun⟨z,g⟩=>by rw[h i z]at g;cases g⟩,List.Pairwise.nil⟩
 | i :: s, a, hsz, h, hcl => by
  obtain⟨M,y⟩:=h;obtain⟨I,o,C,d⟩:=mem_ready.1 M;have F:l[i]? = some o:=by simpa using C
  have t:=bJ F;have c:∀k,before m i k=true->k<l.length->a.getD k false=true:=by
   intro k w r;obtain⟨_,e,L,f⟩:=hc.trans i o F k w r;obtain⟨H,A,rfl⟩:=zAn.1 L;obtain⟨n,p⟩:=List.mem_filter.1 A;have y:=d H (by simpa using n) p;rcases f with rfl|f
   ·exact y
   ·exact hcl _ _ y f r
  obtain⟨z,g,J⟩:=NF (hc:=hc) s (a.setIfInBounds i true) (by simp[hsz]) y (λj k E q w=>by
   by_cases e:i=j
   ·subst e;exact getD_set_true (c k q w)
   ·rw[getD_set_ne false e]at E;exact getD_set_true (hcl j k E q w))
  have v:i∉s:=λB=>by
   have:=((g i).1 B).2;simp[hsz,t]at this
  refine⟨zB6.2 ⟨v,z⟩,λj=> ?_,List.pairwise_cons.2 ⟨λx G=> ?_,J⟩⟩
  ·by_cases e:i=j
   ·subst e;simp[t,I]
   ·rw[zAk,g j,getD_set_ne true e];constructor
    ·rintro(h|h)
     ·exact absurd h.symm e
     ·exact h
    ·exact λh=> .inr h
  ·cases K:before m i x with
   |false=>rfl
   |true=>
    have b:=(g x).1 G;have D:i≠x:=λe=>v (e▸G);rw[getD_set_ne true D]at b;have:=c x K b.1;have u:x<a.size:=by omega
    simp[u]at this b;rw[this]at b;simp at b
theorem JY {S:Option Nat} {id:Nat} {a:Act} {w:World} (E:List (List Nat)) (M:l.all kM=true) (O:P.follows .mixedOrders=true) (J:afh l m k0=true) (C:Q_ l m E=true)
  (h:∀L∈E,RW P l.toArray Q (before m) (dW l) k0 L a w.drew [] []):(Code.region id l.toArray true).wpr S P Q a w:=by
 refine KG M λt=> ?_;have f:=WE J;simp only[Region.schedule,O,Bool.true_or,if_true,Region.linearise];have H:∀i,i<l.length->(Array.replicate l.toArray.size false).getD i true=false:=λi d=>by simp[d]
 have n:∀j k,(Array.replicate l.toArray.size false).getD j false=true->before m j k=true->k<l.length->(Array.replicate l.toArray.size false).getD k false=true:=by
  intro j k A;simp[Array.getElem?_replicate]at A;split at A<;>simp at A
 have c:=afP f l.toArray.size t (Array.replicate l.toArray.size false) (by unfold left;exact zB4 (List.length_filter_le _ _) (by simp)) (by simp);generalize Region.linearise.go .any l.toArray l.toArray.size t (Array.replicate l.toArray.size false) []=s at c;obtain⟨K,o,R⟩:=NF (hc:=f) s _ (by simp) c n;simp only[Q_,zA4]at C;have g:s.Perm (List.range l.length):=by
  refine(List.perm_ext_iff_of_nodup K List.nodup_range).2 λi=> ?_;rw[o i,zAf];exact⟨λh=>h.1,λh=>⟨h,H i h⟩⟩
 have B:=GW _ _ (g.filter (dW l));have v:=zA5.1 C.2 _ B;have u:pw m (s.filter (dW l))=true:=by
  have p:(s.filter (dW l)).Nodup:=List.Pairwise.filter _ K;have r:(s.filter (dW l)).Pairwise (λx i=>before m x i=false):=List.Pairwise.filter _ R;generalize s.filter (dW l)=q at p r
  induction q with
  |nil=>rfl
  |cons x q D=>
   have F:=zB6.1 p;have G:=List.pairwise_cons.1 r;simp only[pw,zA4,zA5,Bool.not_eq_true'];refine⟨λi d=>⟨G.1 i d,oK (λe=>F.1 (e▸d))⟩,D F.2 G.2⟩
 rw[u]at v;simp only[Bool.not_true,Bool.false_or,List.any_eq_true]at v;obtain⟨L,I,N⟩:=v;have b:=zA5.1 C.1 L I;simp only[zA4,zA5,zAw,zAf,List.contains_iff_mem]at b;obtain⟨y,z⟩:=VF m L b.1.1;exact XW f s L _ a _ [] [] c (by simp) y z (λi=>⟨λd=>⟨b.1.2 i d,H i (b.1.2 i d)⟩,λd=>b.2 i d.1⟩) n (by simpa using N) (h L I)
theorem Jc {k:Option Nat} {c:xD} {n:Sz} {d:Fr} {M L:List bF} {id:Nat} (m:List Nat) (k0:Nat) (b:List (List Nat)) (g:P.follows .mixedOrders=true) (e:afh l m k0=true) (j:Q_ l m b=true)
  (h:∀o∈b,JR c n d M L [] [] (RW P l.toArray Q (before m) (dW l) k0 o)) (f:l.all kM=true:=by rfl):J c n d M L ((Code.region id l.toArray true).wpr k P Q):=λa w s t=>
 JY b f g e j λo i=>h o i a w.drew [] [] s (t.ext ((Below.refl _ _).drew)) trivial trivial
end
end Go.Sx
section
set_option maxRecDepth 100000
namespace Go.Sx
open Go.RowKit Go.ChangeShapes Go.WideShapes Go.ChangeAt Go.Proofs Go.Joins
theorem ajc:ownKnob Tryz.prog.godebug=none:=by kernel_rfl
theorem aho:laidOutB Tryz.prog=true:=by kernel_rfl
section
variable {H:Type} {enc:TypeId×Value->H} {P:Program}
theorem Hb (j:laidOutB P=true) {W g:World} (i:OE W g):∀(a:List TypeId) (e:List Value) (c:List (DataW H)) (p:List MemPlace),(a.all λt=>P.readableRec t&&decide (t<P.types.size))=true->
  DataW.TrodAll enc P W 0 (λ_=>true) true a e c p->(∀x∈p,x.block<W.heap.size)->DataW.TrodAll enc P g 0 (λb=>decide (b<W.heap.size)) true a e c p
 | [],[],[],_,_,h,_=>h
 |t::a,v::e,d::c,ps,hr,h,hlt=>by
  obtain⟨p,q,k,l,rfl⟩:=h;simp only[List.all_cons,zA4,zA1]at hr;exact⟨p,q,Below.trod j hr.1.1 hr.1.2 k i (λx f=>hlt x (List.mem_append_left _ f)),Hb j i a e c q (by simpa using hr.2) l (λx f=>hlt x (List.mem_append_right _ f)),rfl⟩
 | [],[],_::_,_,_,h,_=>h.elim
 | [],_::_,_,_,_,h,_=>h.elim
 |_::_,[],_,_,_,h,_=>h.elim
 |_::_,_::_,[],_,_,h,_=>h.elim
theorem LP {f:FuncId} {a:Array Value} {L:List bF} {W:World} (h:aY Tryz.prog f a L (λ_:Unit=> .bool true) (λ_ l=>l) (λ_ l=>l)) (c:∀g∈L,g.p W (λ_=>True)):
  Calls Tryz.prog f a W λe b=>e = .returned (.bool true)∧OE W b:=
 (h W (λ_=>True) c).mono λ_ _ ⟨_,d,i⟩=>⟨d,i.old.ext⟩
variable {w:World} {base:Nat} {spare:Nat->Bool} {held:Bool}
theorem WB {A:Addr} {k:Nat} {a:List Value} (h:w.cells? base A k=some a):a.length=k∧∀(j:Nat) (u:Value),a[j]? = some u->w.cell? (A.add j)=some u:=by
 obtain⟨_,c,d⟩:=World.cells?_some h;refine⟨c,λj u b=>?_⟩
 have e:=bJ b;rw[d j (by omega)];exact b
theorem Cf {B:Type} (r:fT B) {t e:TypeId} (ht:P.underlying t=some (.slice e)) (X:P.cellsOf e=r.sz)
  (F:∀(n:Nat) (N:List Value) (x:DataW H×List MemPlace),DataW.trod enc P w base spare held n e N=some x->∃y:B,r.R w (λ_=>True) N y)
  {U:Nat} {v:Value} {x:DataW H×List MemPlace} (h:DataW.trod enc P w base spare held U t [v]=some x):∃d:List B,OJ r w (λ_=>True) v d:=by
 rcases Deep.open_slice ht h with⟨L,_⟩|⟨a,f,o,m,n,D,Pl,L,hb,hl,hm,I,_,hx⟩
 ·cases L;exact⟨[],none,0,rfl,by simp,.inl Z⟩
 cases L;have Y:f<=m:=by rw[I];split<;>omega
 by_cases W:f=0
 ·subst W;exact⟨[],some a,o,rfl,by simp,.inl Z⟩
 -- the elements,chosen one by one
 have M:∀k,k<=f->∃d:List B,d.length=k∧∀i y,d[i]? = some y->∃g,(∀(j:Nat) (u:Value),g[j]? = some u->w.cell? ((a.add (i*P.cellsOf e)).add j)=some u)∧r.R w (λ_=>True) g y:=by
  intro k
  induction k with
  |zero=>exact λ_=>⟨[],rfl,λi y q=>by simp at q⟩
  | succ k ih =>
   intro hk;obtain⟨d,z,A⟩:=ih (by omega);obtain⟨p,C,K⟩:=hx k (by omega);obtain⟨y,q⟩:=F n p _ K;refine⟨d++[y],by simp[z],λi y' l=>?_⟩
   by_cases S:i<d.length
   ·rw[zAd S]at l;exact A i y' l
   have G:i=k:=by
    have:=bJ l;simp at this;omega
   subst G;rw[zAb (by omega),z,Nat.sub_self]at l;simp at l;subst l;exact⟨p,(WB C).2,q⟩
 obtain⟨d,z,A⟩:=M f (zAe _);have c:a.spot=none:=by
  obtain⟨g,E,J⟩:=A 0 (d[0]'(by omega)) (zA0 _);have O:=r.len J;have Q:=r.pos;have:=E 0 (g[0]'(by omega)) (zA0 _);rw[Nat.zero_mul]at this;have T:(a.add 0).add 0=a:=rfl;rw[T]at this;unfold World.cell? at this;split at this
  ·split at this
   ·cases this
   rename_i V;simpa using V
  cases this
 obtain⟨b,s,sp⟩:=a;simp only at c;subst c;refine⟨d,some ⟨b,s,none⟩,o,by rw[z],?_,.inr ⟨b,s,rfl,trivial,λi y q=>?_⟩⟩
 ·have:maxLen=9223372036854775807:=rfl;exact⟨by omega,by omega⟩
 obtain⟨g,E,J⟩:=A i y q;refine⟨g,λj u hu=>?_,J⟩
 have:=E j u hu;rw[fR,fR,X]at this;rwa[Nat.add_assoc]at this
theorem Pk {k:IntKind} {e:TypeId} (b:P.underlying e=some (.int k)) (n:Nat) (a:List Value) (x:DataW H×List MemPlace) (h:DataW.trod enc P w base spare held n e a=some x):∃y:Int,(fT.int k).R w (λ_=>True) a y:=by
 obtain⟨y,c,_,_⟩:=DataW.trod_int b h;exact⟨y,c⟩
theorem WC:Tryz.prog.cellsOf 3=1:=by kernel_rfl
theorem Ix {a:Nat} {v:Value} {d:DataW H} {p:List MemPlace} (e:Value.okWide Tryz.prog w .any a 22 v) (h:DataW.Trod enc Tryz.prog w base spare held 22 v d p):∃g:List Int,(Sl (fT.int .i64) v g).p w (λ_=>True):=by
 obtain⟨i,f,b,rfl⟩:=okWide_slice Tryz.underlying22 e;obtain⟨U,c⟩:=h;exact Cf (fT.int .i64) Tryz.underlying22 WC (Pk Tryz.underlying3) (by simpa [Value.cells]using c)
end
end Go.Sx
end
namespace Go.Sx
open Go.RowKit
def ck {a:Type} (p:Prop) [Decidable p] (x:Option a):Option a:=if p then x else none
theorem Pd {b:Type} {p:Prop} [Decidable p] {x:Option b} {r:b} (h:ck p x=some r):p∧x=some r:=by
 unfold ck at h;by_cases a:p
 ·rw[if_pos a]at h;exact⟨a,h⟩
 ·rw[if_neg a]at h;cases h
theorem Kx {a:Type} {p:Prop} [Decidable p] {x y:Option a} {r:a} (b:p) (h:(if p then x else y)=some r):x=some r:=by rwa[if_pos b]at h
theorem Xy {a:Type} {p:Prop} [Decidable p] {x y:Option a} {r:a} (b:¬p) (h:(if p then x else y)=some r):y=some r:=by rwa[if_neg b]at h
theorem Ju {a:Type} {b:Bool} {x y:Option a} {r:a} (c:b=false) (h:(if b=true then x else y)=some r):y=some r:=by
 rwa[if_neg (by simp[c])]at h
theorem bnd {a b:Type} {x:Option a} {f:a->Option b} {r:b} (h:x.bind f=some r):∃y,x=some y∧f y=some r:=Option.bind_eq_some_iff.1 h
def bH {X R:Type} (step:X->(X->Option R)->Option R):Nat->X->Option R
 |0,_=>none
 |k+1,x=>step x (bH step k)
def aE (M L:List bF) (g:bF):Prop:=∀(w:World) (S:Nat->Prop) (T:Nat->Nat->Prop) (U:Nat->Prop),(∀f∈L,f.p w S)->(∀(i:Nat) (m:bF),M[i]? = some m->m.p w (T i))->(∀k,S k->U k)->(∀i k,T i k->U k)->g.p w U
section
variable {M L:List bF} {α β:Type} {e:fQ α} {r:fT α} {v:Value}
theorem bF.wide {f:bF} {w:World} {S U:Nat->Prop} (h:f.p w S) (a:∀k,S k->U k):f.p w U:=f.mono h λk b _=>⟨a k b,rfl⟩
theorem aE.fact {g:bF} (j:Nat) (h:L[j]? = some g):aE M L g:=λ_ _ _ _ a _ b _=>bF.wide (a g (zAv h)) b
theorem aE.res {m:bF} (i:Nat) (h:M[i]? = some m):aE M L m:=λ_ _ _ _ _ a _ b=>bF.wide (a i m h) (b i)
theorem aE.mono {f g:bF} (h:aE M L f) (a:∀{w U},f.p w U->g.p w U):aE M L g:=λw S T U b c d i=>a (h w S T U b c d i)
theorem aT {b:List α} (h:aE M L (Ar e v b)) (a:e.Fits r):aE M L (Sl r v b):=h.mono λh=>FU.sl a h
theorem aE.nil:aE M L (Sl r (.slice none 0 0) []):=λ_ _ _ _ _ _ _ _=>⟨none,0,rfl,by simp,.inl Z⟩
def Sn {β:Type} (r:fT α) (b:α->β) (v:Value) (a:List α) (c:List β):bF where
 p w S:=OJ r w S v a∧a.map b=c
 mono:=λh e=>⟨h.1.mono e,h.2⟩
abbrev S2 (r:fT α) (v:Value) (b:List (Value×List α)) (a:List (List α)):bF:=Sn (fT.sl r) (λz=>z.2) v b a
theorem aE.sl {b:α->β} {a:List α} {c:List β} (h:aE M L (Sn r b v a c)):aE M L (Sl r v a):=h.mono λh=>h.1
theorem abq [Inhabited α] [Inhabited β] (f:α->β) {a:List α} {i:Int} (c:0<=i) (d:i<a.length):at' (a.map f) i=f (at' a i):=by
 have h:=mJ c d;have b:=mJ (xs:=a.map f) c (by simpa using d);rw[List.getElem?_map,h]at b;simpa using b.symm
theorem zBd {b:List (Value×List α)} {a:List (List α)} {i:Int} (h:aE M L (S2 r v b a)) (c:0<=i) (d:i<a.length):aE M L (Sl r (at' b i).1 (at' a i)):=h.mono λ{w U} h=>by
 obtain⟨h,f⟩:=h;have g:i<b.length:=by rw[<-f]at d;simpa using d
 obtain⟨k,j,_⟩:=sl_cell h (mJ c g);rw[<-f,abq _ c g];exact j.2
theorem bE {i j:Nat} {vs:List Value} {a:List (List α)} (l:M[i]? = some (Ar fQ.raw v vs)) (m:M[j]? = some (nH e vs a)) (b:e.Fits r):aE M L (S2 r v (vs.zip a) a):=λw S T U o c p f=>by
 have g:=c i _ l;have d:=c j _ m;refine⟨(adu b g d).mono λk n _=>⟨?_,rfl⟩,?_⟩
 ·rcases n with h|h
  ·exact f i k h
  ·exact f j k h
 ·rw[List.map_snd_zip];obtain⟨q,_⟩:=d;omega
theorem aE.row {j:Nat} {vs:List Value} {a:List (List α)} {k:Int} (m:M[j]? = some (nH e vs a)) (b:e.Fits r) (c:0<=k) (h:k<a.length):aE M L (Sl r (at' vs k) (at' a k)):=λw S T U o i p l=>by
 have d:=i j _ m;have s:=d.1;obtain⟨_,G,f,g,_⟩:=d;exact(FU.sl b (f k.toNat _ _ (mJ c (by omega)) (mJ c h))).mono λq n _=>⟨l j q (g _ q n),rfl⟩
theorem aE.st {c:xD} {w:World} {g:bF} (h:aE M L g) (t:St c M L w):∃S,g.p w S:=by
 obtain⟨_,F,a,b⟩:=t;exact⟨λ_=>True,h w (Gs c F) F (λ_=>True) b a.res (λ_ _=>trivial) (λ_ _ _=>trivial)⟩
end
section
variable {P:Program} {rd:Option Nat} {c:xD} {n:Sz} {σ:Fr} {M L:List bF} {Q:Exit->Act->World->Prop} {ops:Array Oper} {rest:List Oper}
variable {d:Option Tmp} {D:Nat} {ty:TypeId} {pos:String} {aft:Array Edge} {g:Option (Nat×Bool)}
variable {α β:Type} {e:fQ α} {r:fT α}
theorem fF [dG P] {T E:TypeId} {l m:Nat} {z:Value} {x:Operand} {v:Value} {b:List α} (k:ev σ x=some v) (i:aE M L (Sl r v b))
  (h:dG.tab P T=some ⟨.slice E,l,m,z⟩):Y P c n σ M L ⟨d,.call ⟨.builtin .len,#[x],#[T]⟩,ty,pos,aft,g⟩ (.int .i64 b.length):=λa w s t=>by
 obtain⟨S,o,f,j,_,_⟩:=i.st t;subst j;simp[execOp,resolve,invoke,builtin,s.eval k,PV w (dG.ok h) Z]
theorem jW [dG P] {T E:TypeId} {l m:Nat} {z:Value} {x:Operand} {v:Value} {i:α->β} {o:List α} {f:List β} (k:ev σ x=some v) (b:aE M L (Sn r i v o f))
  (j:dG.tab P T=some ⟨.slice E,l,m,z⟩):Y P c n σ M L ⟨d,.call ⟨.builtin .len,#[x],#[T]⟩,ty,pos,aft,g⟩ (.int .i64 f.length):=λa w s t=>by
 obtain⟨_,_,h⟩:=b.st t;rw[<-h,List.length_map];exact fF k b.sl j a w s t
theorem aZ [dG P] {T E:TypeId} {G H l I:Nat} {z J:Value} {o:TypeDesc} {x y:Operand} {v:Value} {i:Int} {m:List α} (C:ev σ x=some v) (F:ev σ y=some (.int .i64 i)) (A:aE M L (Sl r v m))
  (u:dG.tab P T=some ⟨.slice E,G,H,z⟩) (q:dG.tab P E=some ⟨o,l,I,J⟩) (h:0<=i∧i<m.length):
  Y P c n σ M L ⟨d,.indexAddr T x y,ty,pos,aft,g⟩ (F_ v (i.toNat*l)):=λa w s t=>by
 obtain⟨p,k⟩:=h;obtain⟨S,K,f,B,_,h⟩:=A.st t;rcases h with h|⟨b,j,rfl,_,_⟩
 ·subst h;simp at k;omega
 ·subst B;simp[execOp,s.eval C,s.eval F,JH w (dG.ok u) Z (dG.ok q) b j _ f i p k]
theorem Sn.len {w:World} {S:Nat->Prop} {v:Value} {b:α->β} {a:List α} {xs:List β} (h:(Sn r b v a xs).p w S):a.length=xs.length:=by rw[<-h.2];simp
theorem cV [dG P] {T E:TypeId} {A B f C:Nat} {z F:Value} {k:TypeDesc} {x y:Operand} {v:Value} {i:Int} {l:α->β} {G:List α} {j:List β} (q:ev σ x=some v) (u:ev σ y=some (.int .i64 i)) (b:aE M L (Sn r l v G j))
  (p:dG.tab P T=some ⟨.slice E,A,B,z⟩) (o:dG.tab P E=some ⟨k,f,C,F⟩) (h:0<=i∧i<j.length):
  Y P c n σ M L ⟨d,.indexAddr T x y,ty,pos,aft,g⟩ (F_ v (i.toNat*f)):=λa w s t=>by
 obtain⟨_,m⟩:=b.st t;exact aZ q u b.sl p o (by rw[Sn.len m];exact h) a w s t
theorem mA [dG P] [Inhabited α] {T:TypeId} {F G q o:Nat} {z:Value} {k:TypeDesc} {x:Operand} {v:Value} {i:Int} {j:List α} {f:α->Value} (E:ev σ x=some (F_ v (i.toNat*q+o))) (A:aE M L (Sl r v j))
  (p:dG.tab P T=some ⟨k,F,G,z⟩) (y:zB k=false) (C:r.sz=q) (u:r.Cell o f) (h:0<=i∧i<j.length):
  Y P c n σ M L ⟨d,.load T x,ty,pos,aft,g⟩ (f (at' j i)):=λa w s t=>by
 obtain⟨l,m⟩:=h;obtain⟨S,h⟩:=A.st t;obtain⟨H,B,b⟩:=sl_cell h (mJ l m);have:=b o _ (u B);rw[C]at this;simp[execOp,s.eval E,F_,Az (dG.ok p) y this]
theorem bV [dG P] [Inhabited α] {T:TypeId} {t u q:Nat} {z:Value} {b:TypeDesc} {x:Operand} {v:Value} {i:Int} {a:List α} {f:α->Value} (s:ev σ x=some (F_ v (i.toNat*q))) (m:aE M L (Sl r v a))
  (j:dG.tab P T=some ⟨b,t,u,z⟩) (l:zB b=false) (p:r.sz=q) (k:r.Cell 0 f) (h:0<=i∧i<a.length):
  Y P c n σ M L ⟨d,.load T x,ty,pos,aft,g⟩ (f (at' a i)):=mA (o:=0) s m j l p k h
theorem cP [dG P] {T:TypeId} {u y:Nat} {z:Value} {j:TypeDesc} {x:Operand} {v:Value} {i:Int} {l:List (Value×List α)} {b:List (List α)} (q:ev σ x=some (F_ v (i.toNat*1))) (k:aE M L (S2 r v l b))
  (o:dG.tab P T=some ⟨j,u,y,z⟩) (p:zB j=false) (h:0<=i∧i<b.length):
  Y P c n σ M L ⟨d,.load T x,ty,pos,aft,g⟩ (at' l i).1:=λa w s t=>by
 obtain⟨_,m⟩:=k.st t;exact bV (r:=fT.sl r) (f:=λz=>z.1) q k.sl o p Z (fT.sl_cell r) (by rw[Sn.len m];exact h) a w s t
theorem pN [dG P] (j:Nat) {T:TypeId} {o:Nat} {z:Value} {a:TypeDesc} {x:Operand} {v:Value} {i:Int} {vs:List Value} {m:Nat} (l:ev σ x=some (F_ v (i.toNat*1))) (k:M[j]? = some (Ar fQ.raw v vs)) (p:vs.length=m)
  (b:dG.tab P T=some ⟨a,1,o,z⟩) (f:zB a=false) (h:0<=i∧i<m):
  Y P c n σ M L ⟨d,.load T x,ty,pos,aft,g⟩ (at' vs i):=Yf j l k b f Z Z h.1 (by omega)
theorem eM [dG P] [Inhabited α] {T:TypeId} {K q:Nat} {z:Value} {o:TypeDesc} {x:Operand} {v:Value} {i:Int} {k:List α} {cs:List Value} (J:ev σ x=some (F_ v (i.toNat*q))) (F:aE M L (Sl r v k)) (f:e.Fits r) (l:e.enc (at' k i)=cs)
  (B:dG.tab P T=some ⟨o,cs.length,K,z⟩) (C:zB o=true) (G:e.sz=q) (h:0<=i∧i<k.length):Y P c n σ M L ⟨d,.load T x,ty,pos,aft,g⟩ (.agg cs.toArray):=λa w s t=>by
 obtain⟨p,y⟩:=h;obtain⟨S,h⟩:=F.st t;obtain⟨N,H,b⟩:=sl_cell h (mJ p y);obtain⟨m,E,_,_⟩:=f;have:=E H;subst this l;rw[m,G]at b;have:=CP (w:=w) (A:=Nh v (i.toNat*q)) (cs:=e.enc (at' k i)) (dG.ok B) C Z (λj u I=>by rw[KW];exact b j u I);simp[execOp,s.eval J,F_,this]
def aB (M L:List bF) (a:List bF):Prop:=∀f∈a,aE M L f
theorem aB.nil:aB M L []:=λ_ h=>by simp at h
theorem aB.cons {f:bF} {b:List bF} (h:aE M L f) (k:aB M L b):aB M L (f::b):=λx a=>by
 rcases zAk.1 a with rfl|a
 ·exact h
 ·exact k x a
theorem QE {w i:World} {b:List bF} {F:Nat->Nat->Prop} {U:Nat->Prop} (o:Dk c.O c.w0 w) (k:Own c w M F) (l:∀f∈L,f.p w (Gs c F))
  (t:St ⟨w,U,λ_=>False⟩ b [] i):St c (b++M) L i:=by
 obtain⟨h,j,a,_⟩:=t;have q:St ⟨w,Gs c F,λ_=>False⟩ b [] i:=⟨h,j,⟨a.res,a.rng,a.dis⟩,λf m=>by simp at m⟩
 exact St.call o k l q
theorem Te {A:Type} {j:A->Value} {k:A->List bF->List bF} {f:FuncId} {p:List Operand} {o:List Value} {b:Array TypeId} {q:List bF} (y:aS P f)
  (C:aY P f o.toArray q j k (λ_ l=>l)) (G:p.map (ev σ)=o.map some) (v:aB M L q) (m:∀x l,k x l=k x []++l):
  aI P c n σ M L ⟨d,.call ⟨.value (.func f),p.toArray,b⟩,ty,pos,aft,g⟩ j (λx=>k x M) (λ_=>L):=λa w s t=>by
 have i:(execOp a.eval ⟨d,.call ⟨.value (.func f),p.toArray,b⟩,ty,pos,aft,g⟩).run P w = .ok (.enter f o.toArray) w:=by
  have e:=evs s G;simp[execOp,resolve,Act.eval,Deferred.ofValue,invoke,y _ w,e]
 simp only[Oper.wp,i,Oper.upon];obtain⟨B,F,u,h⟩:=t;refine(C w (λ_=>True) (λf z=>v f z w (Gs c F) F _ h u.res (λ_ _=>trivial) (λ_ _ _=>trivial))).mono ?_;rintro e H ⟨x,rfl,E⟩;refine⟨x,rfl,?_⟩
 rw[m];exact QE B u h E
theorem i_ {A:Type} {j:A->Value} {k:A->List bF->List bF} {f:FuncId} {t:Tmp} {p:List Operand} {vs cs:List Value} {b:Array TypeId} {q:List bF} (z:aS P f)
  (o:lk σ t=some (.func (.func f) #[] cs.toArray)) (E:aY P f (vs++cs).toArray q j k (λ_ l=>l)) (G:p.map (ev σ)=vs.map some) (y:aB M L q) (m:∀x l,k x l=k x []++l):
  aI P c n σ M L ⟨d,.call ⟨.value (.tmp t),p.toArray,b⟩,ty,pos,aft,g⟩ j (λx=>k x M) (λ_=>L):=λa w s H=>by
 have i:(execOp a.eval ⟨d,.call ⟨.value (.tmp t),p.toArray,b⟩,ty,pos,aft,g⟩).run P w = .ok (.enter f (vs++cs).toArray) w:=by
  have e:=evs s G;have v:a.eval (.tmp t) = .func (.func f) #[] cs.toArray:=s.eval (x:= .tmp t) o;simp[execOp,resolve,v,Deferred.ofValue,invoke,z _ w,e]
 simp only[Oper.wp,i,Oper.upon];obtain⟨C,F,u,h⟩:=H;refine(E w (λ_=>True) (λf B=>y f B w (Gs c F) F _ h u.res (λ_ _=>trivial) (λ_ _ _=>trivial))).mono ?_;rintro e I ⟨x,rfl,o⟩;refine⟨x,rfl,?_⟩
 rw[m];exact QE C u h o
theorem iV [dG P] (i:Nat) {r:fT α} (b:e.Fits r) {x y:Operand} {v u:Value} {h j:List α} {T E:TypeId} {W X m k:Nat} {z p:Value} {q:TypeDesc} (S:ev σ x=some v) (U:ev σ y=some u) (J:M[i]? = some (Ar e v h)) (K:aE M L (Sl r u j))
  (o:dG.tab P T=some ⟨.slice E,W,X,z⟩) (G:dG.tab P E=some ⟨q,m,k,p⟩) (B:e.sz=m) (C:Nat.ble k 1024=true) (Y:(h.length:Int)+j.length<=1099511627) (V:p.cells.size=m):
  aI P c n σ M L ⟨d,.call ⟨.builtin .append,#[x,y],#[T,T]⟩,ty,pos,aft,g⟩ (λf:Value=>f) (λf=>M.set i (Ar e f (h++j))) (λ_=>L):=λa w s t=>by
 subst B;obtain⟨F,H⟩:=K.st t;obtain⟨O,A⟩:=QD b H o;have l:k<=1024:=by simpa using C
 have I:(h.length+j.length)*k<=140737488355328:=zB4 (Nat.mul_le_mul (show h.length+j.length<=1099511627 by omega) l) (by decide);obtain⟨f,w',N,R⟩:=t.append (ty:=ty) J O A o G I (by omega) V;simp only[Oper.wp,Ep s S U w,N,Result.andThen_ok,Oper.upon];exact⟨f,rfl,R⟩
theorem St.appendRow [dG P] {w:World} (t:St c M L w) {i:Nat} {u:Value} {k:Int} {C:List Value} {b:List (List α)} {p:List α} {T E ty:TypeId} {s1 s2 s4:Nat} {z z':Value} {dE:TypeDesc} (hf:M[i]? = some (nH e C b)) (A:Src P e.sz T u p.length (cellsOf e p) w) (x:(cellsOf e p).all one=true)
  (hT:dG.tab P T=some ⟨.slice E,s1,s2,z⟩) (hE:dG.tab P E=some ⟨dE,e.sz,s4,z'⟩) (Y:0<=k) (h1:k<C.length) (hb:((at' b k).length+p.length)*s4<=140737488355328) (hl:(at' b k).length+p.length<=140737488355328) (hz:z'.cells.size=e.sz):
  ∃B N,(Builtin.append_ #[T,T] ty #[at' C k,u]).run P w = .ok B N∧St c (M.set i (nH e (C.set k.toNat B) (b.set k.toNat (at' b k++p)))) L N:=by
 have t0:=t;obtain⟨ho,FF,hO,U⟩:=t0;have hR:=hO.res i _ hf;obtain⟨s,G,X,S,I⟩:=hR;have V:k.toNat<C.length:=by omega
 have y:=X k.toNat _ _ (mJ Y h1) (mJ Y (by omega));obtain⟨B,N,F',hr,hA,l⟩:=FU.append (ty:=ty) y A x hT hE hb hl hz;refine⟨B,N,hr,?_⟩
 refine KQ ho hO U hf l.os l.tape l.out l.size (λq a hn=>l.same q a (λh=>hn (S _ q h))) (F':=λq=>(F' q)∨∃j,j≠k.toNat∧G j q) ?_ ?_
 ·refine⟨by simp[s],λj q=>(j=k.toNat∧F' q)∨(j≠k.toNat∧G j q∧q<w.heap.size),?_,?_,?_⟩
  ·intro j v2 F m o;by_cases H:j=k.toNat
   ·subst H;rw[zAm V]at m;rw[zAm (by omega)]at o;cases m;cases o;exact bF.same (f:=Ar e B (at' b k++p)) hA (λq a=> .inl ⟨rfl,a⟩) (λ_ _ _=>rfl)
   ·rw[zAy (Ne.symm H)]at m o;exact(Ar e v2 F).mono (X j v2 F m o) (λq a v=>⟨.inr ⟨H,a,v⟩,l.same q v (λh=>H (I _ _ q a h))⟩)
  ·rintro j q (⟨_,a⟩|⟨W,a,_⟩)
   ·exact .inl a
   ·exact .inr ⟨j,W,a⟩
  ·rintro j1 j2 q (⟨O,J⟩|⟨O,J,l1⟩) (⟨R,K⟩|⟨R,K,l2⟩)
   ·rw[O,R]
   ·rcases l.sub q J with h|⟨h,_⟩
    ·exact absurd (I _ _ q K h) R
    ·omega
   ·rcases l.sub q K with h|⟨h,_⟩
    ·exact absurd (I _ _ q J h) O
    ·omega
   ·exact I _ _ q J K
 ·rintro q (a|⟨j,_,a⟩)
  ·rcases l.sub q a with h|h
   ·exact .inl (S _ q h)
   ·exact .inr h
  ·exact .inl (S _ q a)
theorem sN [dG P] (i:Nat) {r:fT α} (b:e.Fits r) {x y:Operand} {u:Value} {k:Int} {vs:List Value} {xss:List (List α)} {ys:List α} {T E:TypeId} {X Y m j:Nat} {z v:Value} {A:TypeDesc} (U:ev σ x=some (at' vs k)) (V:ev σ y=some u) (p:M[i]? = some (nH e vs xss)) (N:aE M L (Sl r u ys))
  (o:dG.tab P T=some ⟨.slice E,X,Y,z⟩) (I:dG.tab P E=some ⟨A,m,j,v⟩) (G:e.sz=m) (H:Nat.ble j 1024=true) (B:0<=k∧k<xss.length) (hl:((at' xss k).length:Int)+ys.length<=1099511627) (W:v.cells.size=m):
  aI P c n σ M L ⟨d,.call ⟨.builtin .append,#[x,y],#[T,T]⟩,ty,pos,aft,g⟩ (λf:Value=>f) (λf=>M.set i (nH e (vs.set k.toNat f) (xss.set k.toNat (at' xss k++ys)))) (λ_=>L):=λa w s t=>by
 subst G;obtain⟨F,J⟩:=N.st t;obtain⟨R,C⟩:=QD b J o;have l:j<=1024:=by simpa using H
 have K:((at' xss k).length+ys.length)*j<=140737488355328:=zB4 (Nat.mul_le_mul (show(at' xss k).length+ys.length<=1099511627 by omega) l) (by decide);have q:vs.length=xss.length:=by obtain⟨_,h⟩:=t.res p;exact h.1
 obtain⟨f,w',O,S⟩:=t.appendRow (ty:=ty) p R C o I B.1 (by omega) K (by omega) W;simp only[Oper.wp,Ep s U V w,O,Result.andThen_ok,Oper.upon];exact⟨f,rfl,S⟩
end
section
variable {P:Program} {rd:Option Nat} {c:xD} {n:Sz} {σ:Fr} {M L M' L':List bF} {Q:Exit->Act->World->Prop} {ops:Array Oper} {rest:List Oper} {K:Act->World->Prop}
variable {d:Option Tmp} {D:Nat} {ty:TypeId} {pos:String} {aft:Array Edge} {g:Option (Nat×Bool)}
variable {α β:Type} {e:fQ α} {r:fT α}
theorem St.weakE {w:World} (h:St c M L w) (j:a_ M M') (i:aB [] L L'):St c M' L' w:=by
 obtain⟨l,F,b,k⟩:=h.weak (L':=L) j (λ_ h=>h);exact⟨l,F,b,λf a=>i f a w (Gs c F) (λ_ _=>False) (Gs c F) k (λ_ _ h=>by simp at h) (λ_ h=>h) (λ_ _ h=>h.elim)⟩
theorem aB.refl (M L:List bF):aB M L L:=λf a=>by
 obtain⟨j,b⟩:=List.getElem?_of_mem a;exact aE.fact j b
def XU {A B:Type} (c:xD) (n:Sz) (C:A->Prop) (b:A->B->Fr) (h f:A->B->List bF) (a:Act) (w:World):Prop:=∃x y,C x∧Gt n (b x y) a∧St c (h x y) (f x y) w
theorem Hh {A B:Type} {x:Code} (C:A->Prop) (f:A->B->Fr) (i h:A->B->List bF) (k:J c n σ M L (x.wpr rd P (Exit.then (XU c n C f i h) Q))) (m:∀a b,C a->J c n (f a b) (i a b) (h a b) K):
  J c n σ M L (x.wpr rd P (Exit.then K Q)):=λa w s t=>IW (λe j v q=>by
 cases e with
 |normal=>obtain⟨z,y,o,p,u⟩:=q;exact m z y o j v p u
 |exit id=>exact q
 |goto l=>exact q
 |ret=>exact q
 |panic E=>exact q
 |outgrown=>exact q) (k a w s t)
theorem bW {A B:Type} {C:A->Prop} {a:A->B->Fr} {f b:A->B->List bF} (x:A) (y:B) (h:C x) (k:Ah σ (a x y)) (j:a_ M (f x y)) (i:aB [] L (b x y)):J c n σ M L (XU c n C a f b):=
 λ_ _ s t=>⟨x,y,h,s.weak k,t.weakE j i⟩
def aaX {A B R:Type} (c:xD) (n:Sz) (b:A->(A->Option R)->Option R) (r:R) (f:A->B->Fr) (i h:A->B->List bF) (k:Nat) (a:Act) (w:World):Prop:=
 ∃x y,bH b k x=some r∧Gt n (f x y) a∧St c (i x y) (h x y) w
theorem KL {A B R:Type} {j:Code} (f:A->(A->Option R)->Option R) {r:R} {m:Nat} (i:A->B->Fr) (v u:A->B->List bF) (p:A) (z:B) (h:bH f m p=some r)
  (N:Ah σ (i p z)) (I:a_ M (v p z)) (H:aB [] L (u p z))
  (o:∀k a b,f a (bH f k)=some r->J c n (i a b) (v a b) (u a b) (j.wpr rd P (Exit.then (aaX c n f r i v u k) Q))):J c n σ M L ((Code.loop j).wpr rd P Q):=by
 intro a w s t;refine XL (X:=Nat×A×B) (λx=>bH f x.1 x.2.1=some r) (λx=>i x.2.1 x.2.2) (λx=>v x.2.1 x.2.2) (λx=>u x.2.1 x.2.2) (λx=>x.1) (m,p,z) h (Ah.refl _) (a_.refl _) (λ_ h=>h) ?_ a w (s.weak N) (t.weakE I H);rintro⟨k,x,y⟩ G;cases k with
 |zero=>cases G
 |succ k=>
  refine XM (o k x y G) λa w h=>IW (λe T V q=> ?_) h;cases e with
  |normal=>obtain⟨O,S,C,E,F⟩:=q;exact⟨(k,O,S),C,Nat.lt_succ_self k,E,F⟩
  |exit id=>exact q
  |goto l=>exact q
  |ret=>exact q
  |panic U=>exact q
  |outgrown=>exact q
theorem kO {A B R:Type} {a:A->(A->Option R)->Option R} {r:R} {k:Nat} {b:A->B->Fr} {i f:A->B->List bF} (x:A) (y:B) (h:bH a k x=some r) (m:Ah σ (b x y)) (l:a_ M (i x y)) (j:aB [] L (f x y)):
  J c n σ M L (aaX c n a r b i f k):=λ_ _ s t=>⟨x,y,h,s.weak m,t.weakE l j⟩
variable {l:List Oper} {m:List Nat} {k0:Nat} {H Bs:List (Nat×List bF×List bF)} {rs:List Nat}
theorem bG {i f:Nat} {j:Op} {v:Value} {b a:List bF} (s:l[i]? = some ⟨some f,j,ty,pos,aft,none⟩) (p:a_ M b) (o:Bz L a)
  (w:Y P c n σ b a ⟨some f,j,ty,pos,aft,none⟩ v) (k:aN (before m i) b a H)
  (h:JR c n ((f,v)::σ) M L H ((i,b,a)::Bs) (RW P l.toArray Q (before m) (dW l) k0 rs))
  (t:Nat.blt i k0=true:=by exact rfl) (u:e_ j=false:=by exact rfl) (q:Nat.blt f n.sz=true:=by exact rfl):JR c n σ M L H Bs (RW P l.toArray Q (before m) (dW l) k0 (i::rs)):=
 JR.quiet b a s t u w ⟨p,o⟩ k q h
theorem fN {i k:Nat} {o:Op} {v:Value} {j:Nat} {b:Bool} {f a:List bF} (w:l[i]? = some ⟨some k,o,ty,pos,aft,some (j,b)⟩) (s:a_ M f) (q:Bz L a)
  (z:Y P c n σ f a ⟨some k,o,ty,pos,aft,some (j,b)⟩ v) (p:aN (before m i) f a H)
  (h:JR c n ((k,v)::σ) M L H ((i,f,a)::Bs) (RW P l.toArray Q (before m) (dW l) k0 rs))
  (x:Nat.blt i k0=true:=by exact rfl) (y:e_ o=false:=by exact rfl) (u:gv l.toArray σ j=some b:=by exact rfl) (t:Nat.blt k n.sz=true:=by exact rfl):JR c n σ M L H Bs (RW P l.toArray Q (before m) (dW l) k0 (i::rs)):=
 Wk f a w x y u z ⟨s,q⟩ p t h
def GY (b:Array Value):ResultVar->Sem Value
 | .tmp t=>pure (b.getD t undef)
 | .cell a t=>do loadVar t (<-asAddr (b.getD a undef))
theorem Cd (b:Func) (a:Array Value):results b a=(do let vs <-b.results.mapM (GY a);pure (if h:vs.size=1 then vs[0]else .tuple vs)):=rfl
def RV (P:Program) (c:xD) (n:Sz) (σ:Fr) (M L:List bF) (b:ResultVar) (v:Value):Prop:=∀a w,Gt n σ a->St c M L w->(GY a.tmps b).run P w = .ok v w
theorem RV.tmp {t:Tmp} {v:Value} (h:lk σ t=some v):RV P c n σ M L (.tmp t) v:=λa w s _=>by simp[GY,s.slot t v h]
theorem RV.cell [dG P] (i:Nat) {q:Tmp} {T h:TypeId} {v:Nat} {z:Value} {f:TypeDesc} {b:Nat} {cs:List Value} (u:lk σ q=some (.pointer (some ⟨b,0,none⟩))) (j:M[i]? = some (bM b cs h)) (o:dG.tab P T=some ⟨f,cs.length,v,z⟩) (p:zB f=true):
  RV P c n σ M L (.cell q T) (.agg cs.toArray):=λa w s t=>by
 obtain⟨F,k⟩:=t.res j;simp[GY,s.slot q _ u,asAddr,aam k o p]
theorem QB [dG P] (i:Nat) {q:Tmp} {T h:TypeId} {y A:Nat} {z v:Value} {f:TypeDesc} {b:Nat} (x:lk σ q=some (.pointer (some ⟨b,0,none⟩))) (j:M[i]? = some (bM b [v] h)) (p:dG.tab P T=some ⟨f,y,A,z⟩) (u:zB f=false):
  RV P c n σ M L (.cell q T) v:=λa w s t=>by
 obtain⟨F,k⟩:=t.res j;have:=bM.cell k (o:=0) (v:=v) Z;simp[GY,s.slot q _ x,asAddr,loadVar,(dG.ok p).run_agg w,u,load,Sem.run,this]
variable {A:Type} {ret:A->Value} {MO LO:A->List bF->List bF} {fn:Func}
theorem FW (x:A) (p:ret x = .tuple #[]) (b:fn.results = #[]) (f:Exit) (o:f = .ret∨f = .normal) (k:a_ M (MO x [])) (j:aB [] L (LO x [])) (i:n.ds=[]:=by rfl):J c n σ M L (iX P fn (Qz c ret MO LO) f):=λa w s t=>
 aet x f o (λa w s t=>by simp[results,b,p]) k (λ_ h=>h) i a w s (t.weakE (a_.refl _) j)
theorem eR (x:A) {h:ResultVar} {i:Value} (q:ret x=i) (b:fn.results = #[h]) (j:RV P c n σ M L h i) (o:a_ M (MO x [])) (k:aB [] L (LO x [])) (f:n.ds=[]:=by rfl):J c n σ M L (iX P fn (Qz c ret MO LO) .ret):=λa w s t=>by
 have p:(results fn a.tmps).run P w = .ok (ret x) w:=by
  have:=j a w s t;simp only[Cd,b];simp[q,this]
 exact body_end (.inl Z) (s.defers.trans f) p ⟨x,rfl,t.weakE o k⟩
theorem iG (x:A) {j k:ResultVar} {o p:Value} (y:ret x = .tuple #[o,p]) (b:fn.results = #[j,k]) (f:RV P c n σ M L j o) (h:RV P c n σ M L k p) (u:a_ M (MO x [])) (q:aB [] L (LO x [])) (i:n.ds=[]:=by rfl):J c n σ M L (iX P fn (Qz c ret MO LO) .ret):=λa w s t=>by
 have v:(results fn a.tmps).run P w = .ok (ret x) w:=by
  have f:=f a w s t;have h:=h a w s t;simp only[Cd,b];simp[y,f,h]
 exact body_end (.inl Z) (s.defers.trans i) v ⟨x,rfl,t.weakE u q⟩
def wI:IntKind->Int->Int
 | .i64,x=>if -9223372036854775808<=x∧x<=9223372036854775807 then x else IntKind.i64.wrap x
 | .u32,x=>if 0<=x∧x<=4294967295 then x else IntKind.u32.wrap x
 |k,x=>k.wrap x
theorem DJ (k:IntKind) (x:Int):wI k x=k.wrap x:=by
 unfold wI;split
 ·split
  ·rename_i h;exact(OA h.1 h.2).symm
  ·rfl
 ·split
  ·rename_i h;unfold IntKind.wrap;simp only[IntKind.bits,IntKind.signed];simp;omega
  ·rfl
 ·rfl
theorem yE {t h:TypeId} {x y:Operand} {k:IntKind} {p q:Int} (b:ev σ x=some (.int k p)) (f:ev σ y=some (.int k q)):
  Y P c n σ M L ⟨d,.binOp .add t x y h,ty,pos,aft,g⟩ (.int k (wI k (p+q))):=λa w s _=>by
 simp[DJ,execOp,s.eval b,s.eval f,binOp,Op.intArith,kE]
theorem qP {t h:TypeId} {x y:Operand} {k:IntKind} {p q:Int} (b:ev σ x=some (.int k p)) (f:ev σ y=some (.int k q)):
  Y P c n σ M L ⟨d,.binOp .sub t x y h,ty,pos,aft,g⟩ (.int k (wI k (p - q))):=λa w s _=>by
 simp[DJ,execOp,s.eval b,s.eval f,binOp,Op.intArith,kE]
theorem zA {t h:TypeId} {x y:Operand} {k:IntKind} {p q:Int} (b:ev σ x=some (.int k p)) (f:ev σ y=some (.int k q)):
  Y P c n σ M L ⟨d,.binOp .mul t x y h,ty,pos,aft,g⟩ (.int k (wI k (p*q))):=λa w s _=>by
 simp[DJ,execOp,s.eval b,s.eval f,binOp,Op.intArith,kE]
theorem Tp {t i:TypeId} {x y:Operand} {k:IntKind} {p q:Int} (b:ev σ x=some (.int k p)) (f:ev σ y=some (.int k q)) (h:q≠0):
  Y P c n σ M L ⟨d,.binOp .quo t x y i,ty,pos,aft,g⟩ (.int k (wI k (p.tdiv q))):=λa w s _=>by
 simp[DJ,execOp,s.eval b,s.eval f,binOp,Op.intDiv,kE,h]
def eW (k:IntKind) (x y:Int):Int:=k.wrap (BitVec.ofInt k.bits x &&& BitVec.ofInt k.bits y).toNat
def Nk (k:IntKind) (x y:Int):Int:=k.wrap (BitVec.ofInt k.bits x ||| BitVec.ofInt k.bits y).toNat
def xF (k:IntKind) (x y:Int):Int:=k.wrap (BitVec.ofInt k.bits x &&& ~~~BitVec.ofInt k.bits y).toNat
def CZ (k:IntKind) (x y:Int):Int:=k.wrap (x*2^(min y.toNat k.bits))
def sG (k:IntKind) (x y:Int):Int:=x.fdiv (2^(min y.toNat k.bits))
theorem UA {t h:TypeId} {x y:Operand} {k:IntKind} {p q:Int} (b:ev σ x=some (.int k p)) (f:ev σ y=some (.int k q)):
  Y P c n σ M L ⟨d,.binOp .and t x y h,ty,pos,aft,g⟩ (.int k (eW k p q)):=λa w s _=>by
 simp[execOp,s.eval b,s.eval f,binOp,Op.intBits,kE,eW]
theorem Yg {t h:TypeId} {x y:Operand} {k:IntKind} {p q:Int} (b:ev σ x=some (.int k p)) (f:ev σ y=some (.int k q)):
  Y P c n σ M L ⟨d,.binOp .or t x y h,ty,pos,aft,g⟩ (.int k (Nk k p q)):=λa w s _=>by
 simp[execOp,s.eval b,s.eval f,binOp,Op.intBits,kE,Nk]
theorem LA {t h:TypeId} {x y:Operand} {k:IntKind} {p q:Int} (b:ev σ x=some (.int k p)) (f:ev σ y=some (.int k q)):
  Y P c n σ M L ⟨d,.binOp .andNot t x y h,ty,pos,aft,g⟩ (.int k (xF k p q)):=λa w s _=>by
 simp[execOp,s.eval b,s.eval f,binOp,Op.intBits,kE,xF]
theorem NL {t j:TypeId} {x y:Operand} {k i:IntKind} {p q:Int} (b:ev σ x=some (.int k p)) (f:ev σ y=some (.int i q)) (h:0<=q):
  Y P c n σ M L ⟨d,.binOp .shl t x y j,ty,pos,aft,g⟩ (.int k (CZ k p q)):=λa w s _=>by
 have:¬q<0:=by omega
 simp[execOp,s.eval b,s.eval f,binOp,Op.shift,kE,CZ,this]
theorem NM {t j:TypeId} {x y:Operand} {k i:IntKind} {p q:Int} (b:ev σ x=some (.int k p)) (f:ev σ y=some (.int i q)) (h:0<=q):
  Y P c n σ M L ⟨d,.binOp .shr t x y j,ty,pos,aft,g⟩ (.int k (sG k p q)):=λa w s _=>by
 have:¬q<0:=by omega
 simp[execOp,s.eval b,s.eval f,binOp,Op.shift,kE,sG,this]
theorem Tn [dG P] {t h:TypeId} {x:Operand} {k f:IntKind} {p:Int} {o q u v:Nat} {z y:Value} (j:ev σ x=some (.int k p)) (i:dG.tab P t=some ⟨.int k,o,q,z⟩) (b:dG.tab P h=some ⟨.int f,u,v,y⟩):
  Y P c n σ M L ⟨d,.convert t h x,ty,pos,aft,g⟩ (.int f (wI f p)):=λa w s _=>by
 simp[DJ,execOp,s.eval j,convert,(dG.ok i).run_und w,(dG.ok b).run_und w,Conv.intToInt]
theorem UC {t:TypeId} {x:Operand} {k:IntKind} {p:Int} (b:ev σ x=some (.int k p)):Y P c n σ M L ⟨d,.unOp .neg t x,ty,pos,aft,g⟩ (.int k (wI k (0 - p))):=λa w s _=>by
 simp[DJ,execOp,s.eval b,Op.unary,Op.intArith]
theorem adz [dG P] {t:TypeId} {f h:Nat} {z:Value} (b:dG.tab P t=some ⟨.bool,f,h,z⟩) (p q:Bool) (w:World):(Op.equal t (.bool p) (.bool q)).run P w = .ok (p==q) w:=by
 have a:∀m:Nat,(Op.equalIn (m+1) t (.bool p) (.bool q)).run P w = .ok (p==q) w:=λm=>by simp[Op.equalIn,(dG.ok b).run_und w]
 exact a 9999
theorem aez [dG P] {t k:TypeId} {x y:Operand} {p q:Bool} {i j:Nat} {z:Value} (f:ev σ x=some (.bool p)) (h:ev σ y=some (.bool q)) (b:dG.tab P t=some ⟨.bool,i,j,z⟩):
  Y P c n σ M L ⟨d,.binOp .neq t x y k,ty,pos,aft,g⟩ (.bool (p != q)):=λa w s _=>by
 simp[execOp,s.eval f,s.eval h,binOp,eqGuard,adz b,bne]
end
def fQ.pair {c d:Type} (a:fQ c) (b:fQ d):fQ (c×d):=⟨a.sz+b.sz,zAo a.pos (Nat.le_add_right _ _),λx=>a.enc x.1++b.enc x.2,λx=>by simp[a.len,b.len]⟩
theorem qM {c d:Type} {a:fQ c} {b:fQ d} {r:fT c} {s:fT d} (h:a.Fits r) (k:b.Fits s):(a.pair b).Fits (r.pair s):=by
 obtain⟨e,f,g,i⟩:=h;obtain⟨j,l,m,n⟩:=k;refine⟨by simp[fQ.pair,fT.pair,e,j],?_,?_,?_⟩
 ·rintro w S u x ⟨q,t,rfl,o,p⟩;rw[f o,l p];rfl
 ·intro w S x;exact⟨_,_,rfl,g,m⟩
 ·intro x;simp only[fQ.pair,List.all_append,i,n,Bool.and_self]
section
variable {P:Program} {rd:Option Nat} {c:xD} {n:Sz} {σ:Fr} {M L M' L':List bF} {Q:Exit->Act->World->Prop} {ops:Array Oper} {rest:List Oper} {K:Act->World->Prop}
variable {d:Option Tmp} {D:Nat} {ty:TypeId} {pos:String} {aft:Array Edge} {g:Option (Nat×Bool)}
variable {α β:Type} {e:fQ α} {r:fT α}
theorem Qw {A:Type} {o:Oper} {f:A->Value} {i:List α} (h:aI P c n σ M L o f (λb=>Ar e (f b) i::M) (λ_=>L)):aI P c n σ M L o (λv:Value=>v) (λv=>Ar e v i::M) (λ_=>L):=λa w s t=>
 qF (λ_ _ ⟨x,j,k⟩=>⟨f x,j,k⟩) (h a w s t)
theorem Ke (e:fQ α) (k:Nat) (x:α):(cellsOf e (List.replicate k x))=(List.replicate k (e.enc x)).flatten:=by
 induction k with
 |zero=>rfl
 |succ k a=>simp only[List.replicate_succ,cellsOf,List.flatMap_cons,List.flatten_cons]at *;rw[a]
theorem Zu (a:List Value) (l:a≠[]) (k:Nat):(madeCells a.toArray (k*a.length)).toList=(List.replicate k a).flatten:=by
 have b:0<a.length:=List.length_pos_iff.2 l;apply List.ext_getElem
 ·simp[madeCells]
 ·intro i m p;have q:i<k*a.length:=by simpa [madeCells]using m
  have o:i%a.length<a.length:=Nat.mod_lt _ b;have j:∀(k i:Nat) (h:i<((List.replicate k a).flatten).length),((List.replicate k a).flatten)[i]=a[i%a.length]'(Nat.mod_lt _ b):=by
   intro k
   induction k with
   |zero=>intro i h;simp at h
   | succ k ih =>
    intro i h;simp only[List.replicate_succ,List.flatten_cons];by_cases f:i<a.length
    ·rw[List.getElem_append_left f];simp[Nat.mod_eq_of_lt f]
    ·rw[List.getElem_append_right (by omega)];rw[ih];congr 1;rw[<-Nat.mod_eq_sub_mod (by omega)]
  rw[j];simp[madeCells,o]
theorem qO [dG P] {T E:TypeId} {G H j f:Nat} {z m:Value} {o:TypeDesc} {x:Operand} {k:Int} (a:α)
  (y:dG.tab P T=some ⟨.slice E,G,H,z⟩) (w:dG.tab P E=some ⟨o,j,f,m⟩) (C:ev σ x=some (.int .i64 k)) (s:Nat.ble f 1024=true) (h:0<=k∧k<=1099511627) (q:e.sz=j)
  (F:m.cells=(e.enc a).toArray) (p:(e.enc a).all one=true):
  aI P c n σ M L ⟨d,.makeSlice T x x,ty,pos,aft,g⟩ (λv:Value=>v) (λv=>Ar e v (List.replicate k.toNat a)::M) (λ_=>L):=by
 have t:f<=1024:=by simpa using s
 subst q;have i:e.enc a≠[]:=by
  intro h;have:=e.len a;rw[h]at this;have:=e.pos;simp at *;omega
 refine Qw (aI.makeSlice (List.replicate k.toNat a) y w C h.1 ?_ (by omega) (by simp) ?_ ?_)
 ·have:=Int.mul_le_mul (show(f:Int)<=1024 by omega) h.2 h.1 (by decide);omega
 ·rw[F,Ke,<-e.len a];exact Zu _ i _
 ·rw[Ke,zA5];intro u B;obtain⟨l,A,b⟩:=List.mem_flatten.1 B;rw[(List.mem_replicate.1 A).2]at b;exact zA5.1 p u b
theorem cQ [dG P] {T E:TypeId} {k x y h A:Nat} {z B:Value} {l:TypeDesc} {j:List (Nat×Operand)} (f:List α) (vs:List (Nat×Value))
  (w:j.map (λp=>(p.1,ev σ p.2))=vs.map (λp=>(p.1,some p.2))) (q:dG.tab P T=some ⟨.slice E,x,y,z⟩) (o:dG.tab P E=some ⟨l,h,A,B⟩) (u:Nat.ble (k*h) 16777216=true)
  (b:∀a:Array Value,a.size=k*h->Instr.fill (λi=>some (i*h,h)) a vs=some (cellsOf e f).toArray)
  (s:f.length=k) (t:Nat.ble f.length 140737488355328=true) (m:(cellsOf e f).all one=true):
  aI P c n σ M L ⟨d,.buildSlice T k j.toArray,ty,pos,aft,g⟩ (λv:Value=>v) (λv=>Ar e v f::M) (λ_=>L):=
 Qw (aI.buildSlice f q o u w b s t m)
theorem t_ [dG P] (j:Nat) {T:TypeId} {w:Nat} {z:Value} {k:TypeDesc} {x y:Operand} {v u:Value} {i:Int} {b:List α} (f:α) (h:0<=i∧i<b.length) (s:ev σ x=some (F_ v (i.toNat*1))) (t:ev σ y=some u)
  (m:M[j]? = some (Ar e v b)) (q:e.enc f=[u]) (a:one u=true) (l:dG.tab P T=some ⟨k,1,w,z⟩) (p:e.sz=1)
  (o:J c n σ (M.set j (Ar e v (b.set i.toNat f))) L (wpList P ops Q rest)):
  J c n σ M L (wpList P ops Q (⟨none,.store T x y,ty,pos,aft,none⟩::rest)):=Qs j f s t q a m l p h.1 h.2 o
theorem sE [dG P] (j q:Nat) {T:TypeId} {G:Nat} {z:Value} {o:TypeDesc} {x y:Operand} {v u:Value} {i:Int} {vs b:List Value} {f:List (List α)} (h:0<=i∧i<f.length) (E:ev σ x=some (F_ v (i.toNat*1))) (F:ev σ y=some u)
  (A:M[j]? = some (Ar fQ.raw v vs)) (C:M[q]? = some (nH e b f)) (l:vs.set i.toNat u=b) (H:b.length=vs.length) (k:one u=true) (p:dG.tab P T=some ⟨o,1,G,z⟩)
  (B:J c n σ (M.set j (Ar fQ.raw v b)) L (wpList P ops Q rest)):
  J c n σ M L (wpList P ops Q (⟨none,.store T x y,ty,pos,aft,none⟩::rest)):=λa w s t=>by
 have m:b.length=f.length:=by obtain⟨_,h⟩:=t.res C;exact h.1
 exact Qs j u E F Z k A p Z h.1 (by omega) (by rw[l];exact B) a w s t
theorem Qt [dG P] (j:Nat) {T E:TypeId} {s1 s2 s3 s4:Nat} {z z':Value} {dE:TypeDesc} {x N:Operand} {v:Value} {i:Int} {k:List α} (h:0<=i∧i<=k.length) (hx:ev σ x=some v) (G:ev σ N=some (.int .i64 i)) (J:M[j]? = some (Ar e v k))
  (hT:dG.tab P T=some ⟨.slice E,s1,s2,z⟩) (hE:dG.tab P E=some ⟨dE,s3,s4,z'⟩) (h3:e.sz=s3):
  aI P c n σ M L ⟨d,.slice T x (some N) none none,ty,pos,aft,g⟩ (λW:Value=>W) (λW=>M.set j (Ar e W (k.drop i.toNat))) (λ_=>L):=λa w s t=>by
 subst h3;obtain⟨h0,h1⟩:=h;obtain⟨F,I⟩:=t.res J;have C:(cellsOf e (k.drop i.toNat))=(cellsOf e k).drop (i.toNat*e.sz):=by
  have:cellsOf e k=cellsOf e (k.take i.toNat)++cellsOf e (k.drop i.toNat):=by rw[<-zE,List.take_append_drop]
  have hl:(cellsOf e (k.take i.toNat)).length=i.toNat*e.sz:=by rw[eZ,List.length_take,Nat.min_eq_left (by omega)]
  rw[this,<-hl,List.drop_left]
 have A:(cellsOf e (k.drop i.toNat)).all one=true:=by
  rw[C,zA5];intro u hu;exact zA5.1 I.2.1 u (List.mem_of_mem_drop hu)
 obtain⟨hl,ad,R⟩:=I;rcases R with⟨rfl,rfl⟩|⟨b,m,f,X,y,rfl,ae,O,hk,hc,ht⟩
 ·have S:i=0:=by simp at h1;omega
  subst S;have l:(execOp a.eval ⟨d,.slice T x (some N) none none,ty,pos,aft,g⟩).run P w = .ok (.value (.slice none 0 0)) w:=by
   simp[execOp,s.eval hx,s.eval G,Instr.sliceAt,Instr.slice,(dG.ok hT).run_und w,Instr.sliceBounds,Instr.sliceBound,asIntOf,(dG.ok hE).run_size w]
  simp only[Oper.wp,l,Oper.upon];refine⟨.slice none 0 0,rfl,?_⟩
  have:M.set j (Ar e (.slice none 0 0) (([]:List α).drop (0:Int).toNat))=M:=by
   apply List.ext_getElem?;intro q;by_cases eq:q=j
   ·subst eq;rw[zAm (bJ J),J];rfl
   ·rw[zAy (Ne.symm eq)]
  rw[this];exact t
 ·have U:i<=(k.length:Int):=h1;have l:(execOp a.eval ⟨d,.slice T x (some N) none none,ty,pos,aft,g⟩).run P w = .ok (.value (.slice (if f=i.toNat then some ⟨b,m,none⟩else some ⟨b,m+i.toNat*e.sz,none⟩) (k.length - i.toNat) (f - i.toNat))) w:=by
   simp[execOp,s.eval hx,s.eval G,Instr.sliceAt,Instr.slice,(dG.ok hT).run_und w,Instr.sliceBounds,Instr.sliceBound,asIntOf,(dG.ok hE).run_size w,h0,U,fR]
  simp only[Oper.wp,l,Oper.upon];refine⟨_,rfl,?_⟩
  refine t.upd J Z Z Z (zAe _) λF I _=>⟨λ_ _ _=>rfl,F,?_,λ_ h=> .inl h⟩
  obtain⟨_,_,R⟩:=I;rcases R with⟨V,_⟩|⟨b',ab,Y,ac,aa,V,o,B,_⟩
  ·cases V
  ·cases V;rw[O]at B;cases B;refine⟨by simp;omega,A,.inr ?_⟩
   by_cases p:f=i.toNat
   ·have H:k.drop i.toNat=[]:=List.drop_of_length_le (by omega);rw[if_pos p,H];exact⟨b,m,f - i.toNat,X,y,by simp;omega,o,O,by simp,by have:=zB5 e.sz (show f - i.toNat<=f by omega);omega,by simp[cellsOf]⟩
   ·rw[if_neg p];refine⟨b,m+i.toNat*e.sz,f - i.toNat,X,y,by simp,o,O,by simp;omega,?_,?_⟩
    ·have:=zB5 e.sz (show i.toNat<=f by omega);rw[Nat.sub_mul];omega
    ·rw[C,<-ht,List.drop_take,List.drop_drop,List.length_drop,Nat.sub_mul]
end
def tQ (M L b a:List bF):Prop:=∀c w,St c M L w->St c b a w
section
variable {P:Program} {rd:Option Nat} {c:xD} {n:Sz} {σ:Fr} {M L M' L':List bF} {Q:Exit->Act->World->Prop} {ops:Array Oper} {rest:List Oper} {K:Act->World->Prop}
variable {d:Option Tmp} {D:Nat} {ty:TypeId} {pos:String} {aft:Array Edge} {g:Option (Nat×Bool)}
variable {α β:Type} {e:fQ α} {r:fT α}
variable {H Bs:List (Nat×List bF×List bF)} {G:Act->World->Prop} {GR:Act->World->List (Nat×World)->List (Nat×(World->Prop))->Prop}
theorem jT (h:tQ M L M' L') (k:J c n σ M' L' G):J c n σ M L G:=λa w s t=>k a w s (h c w t)
theorem JR.stp (h:tQ M L M' L') (k:JR c n σ M' L' H Bs GR):JR c n σ M L H Bs GR:=λa w X Y s t b f=>k a w X Y s (h c w t) b f
theorem dH {p:Prop} (h:∀c w,St c M L w->p) (k:p->J c n σ M L G):J c n σ M L G:=λa w s t=>k (h c w t) a w s t
theorem cL {p:Prop} (h:∀c w,St c M L w->p) (k:p->JR c n σ M L H Bs GR):JR c n σ M L H Bs GR:=λa w X Y s t b f=>k (h c w t) a w X Y s t b f
theorem Know.one {v:Value} {h:List α} (b:aE M L (Sl r v h)):∀c w,St c M L w->one v=true:=λc w t=>by
 obtain⟨S,i,a,f,_⟩:=b.st t;rw[f];rfl
theorem eH (q:Nat) {vs:List Value} {xss:List (List α)} (a:M[q]? = some (nH e vs xss)):∀c w,St c M L w->vs.length=xss.length:=λc w t=>by
 obtain⟨_,h⟩:=t.res a;exact h.1
theorem tQ.add {m:bF} (h:∀w,m.p w (λ_=>False)):tQ M L (m::M) L:=λc w t=>by
 obtain⟨v,F,l,s⟩:=t;refine⟨v,λi k=>match i with|0=>False|i+1=>F i k,⟨?_,?_,?_⟩,λf u=>bF.same (s f u) (λk b=>⟨b.1,λi a=>by
   cases i with
   |zero=>exact a
   |succ i=>exact b.2 i a⟩) (λ_ _ _=>rfl)⟩
 ·intro i x o;cases i with
  |zero=>simp at o;subst o;exact h w
  |succ i=>exact l.res i x (by simpa using o)
 ·intro i k b;cases i with
  |zero=>exact b.elim
  |succ i=>exact l.rng i k b
 ·intro i j k a q;cases i with
  |zero=>exact a.elim
  |succ i=>
   cases j with
   |zero=>exact q.elim
   |succ j=>exact congrArg (· + 1) (l.dis i j k a q)
theorem gK (e:fQ α):tQ M L (Ar e (.slice none 0 0) []::M) L:=tQ.add λ_=>⟨by simp,rfl,.inl ⟨rfl,rfl⟩⟩
theorem AQ (e:fQ α) (k:Nat):tQ M L (nH e (List.replicate k (.slice none 0 0)) (List.replicate k [])::M) L:=tQ.add λw=>by
 refine⟨by simp,λ_ _=>False,λi v f a b=> ?_,λ_ _ h=>h,λ_ _ _ h=>h.elim⟩
 rw[List.getElem?_replicate]at a b;split at a
 ·rename_i h;rw[if_pos h]at b;cases a;cases b;exact⟨by simp,rfl,.inl ⟨rfl,rfl⟩⟩
 ·cases a
theorem CG (e:fQ α):tQ M L (nH e [] []::M) L:=AQ e 0
theorem Tl (i j:Nat) {u:Value} {o:List Value} {l:List (List α)} {z:List α} (x:Nat.beq i j=false) (S:M[i]? = some (nH e o l)) (T:M[j]? = some (Ar e u z)):tQ M L ((M.set i (nH e (o++[u]) (l++[z]))).eraseIdx j) L:=λc w t=>
 t.merge i j (λe=>by subst e;simp at x) S T (by
  rintro w U F ⟨p,G,I,s,J⟩ R A;refine⟨by simp[p],λq k=>(q<o.length∧G q k)∨(q=o.length∧F k),?_,?_,?_⟩
  ·intro q v E h m;by_cases B:q<o.length
   ·rw[zAd B]at h;rw[zAd (by omega)]at m;exact bF.same (f:=Ar e v E) (I q v E h m) (λk a=> .inl ⟨B,a⟩) (λ_ _ _=>rfl)
   ·rw[zAb (by omega)]at h;rw[zAb (by omega)]at m;have y:q - o.length=0:=by have:=bJ h;simp at this;omega
    rw[y]at h;rw[show q - l.length=0 by omega]at m;simp at h m;subst h;subst m;exact bF.same (f:=Ar e u z) R (λk a=> .inr ⟨by omega,a⟩) (λ_ _ _=>rfl)
  ·rintro q k (⟨_,a⟩|⟨_,a⟩)
   ·exact .inl (s q k a)
   ·exact .inr a
  ·rintro q C k (⟨N,a⟩|⟨N,a⟩) (⟨O,b⟩|⟨O,b⟩)
   ·exact J q C k a b
   ·exact absurd b (A k (s q k a))
   ·exact absurd a (A k (s C k b))
   ·omega)
theorem QG (i j:Nat) {o J:List Value} {p s:List (List α)} (C:Nat.beq i j=false) (U:M[i]? = some (nH e o p)) (V:M[j]? = some (nH e J s)):tQ M L ((M.set i (nH e (o++J) (p++s))).eraseIdx j) L:=λc w t=>
 t.merge i j (λe=>by subst e;simp at C) U V (by
  rintro w W X ⟨h,G,O,A,R⟩ ⟨m,N,z,l,B⟩ E;refine⟨by simp[h,m],λq k=>(q<o.length∧G q k)∨(o.length<=q∧N (q - o.length) k),?_,?_,?_⟩
  ·intro q v y u x;by_cases F:q<o.length
   ·rw[zAd F]at u;rw[zAd (by omega)]at x;exact bF.same (f:=Ar e v y) (O q v y u x) (λk a=> .inl ⟨F,a⟩) (λ_ _ _=>rfl)
   ·rw[zAb (by omega)]at u;rw[zAb (by omega),<-h]at x;exact bF.same (f:=Ar e v y) (z _ v y u x) (λk a=> .inr ⟨by omega,a⟩) (λ_ _ _=>rfl)
  ·rintro q k (⟨_,a⟩|⟨_,a⟩)
   ·exact .inl (A q k a)
   ·exact .inr (l _ k a)
  ·rintro q I k (⟨S,a⟩|⟨S,a⟩) (⟨T,b⟩|⟨T,b⟩)
   ·exact R q I k a b
   ·exact absurd (l _ k b) (E k (A q k a))
   ·exact absurd (l _ k a) (E k (A I k b))
   ·have:=B _ _ k a b;omega)
theorem As (i j:Nat) {u:Value} {k:Int} {vs:List Value} {a:List (List α)} {f:List α} (b:Nat.beq i j=false) (l:M[i]? = some (nH e vs a)) (m:M[j]? = some (Ar e u f)) (h:0<=k∧k<a.length):
  tQ M L ((M.set i (nH e (vs.set k.toNat u) (a.set k.toNat f))).eraseIdx j) L:=λc w t=>by
 have o:=eH i l c w t;exact XN (n:=⟨0,[]⟩) (σ:=[]) (G:=λ_ w=>St c ((M.set i (nH e (vs.set k.toNat u) (a.set k.toNat f))).eraseIdx j) L w) (k:=k) i j b l m h.1 (by omega) (λ_ _ _ t=>t) ⟨#[],[]⟩ w ⟨rfl,rfl,λ_ _ h=>by simp[lk]at h⟩ t
theorem aB.tail (l:List bF) {a:List bF}:aB M (l++a) a:=λf b=>by
 obtain⟨j,h⟩:=List.getElem?_of_mem (List.mem_append_right l b);exact aE.fact j h
theorem bR {l:List Oper} {m:List Nat} {b:Nat} {a:List Nat} (k:Nat) (i:a.all (Nat.ble b)=true) (f:a.map (l[·]?)=(l.drop k).map some) (h:J c n σ M L (wpList P l.toArray Q (l.drop k))):JR c n σ M L H Bs (RW P l.toArray Q (before m) (dW l) b a):=JR.tail i f h
theorem cY [dG P] {T h:TypeId} {q u:Nat} {z:Value} {f:TypeDesc} {x:Operand} {b o:Nat} {cs:List Value} {v:Value} (p:ev σ x=some (.pointer (some ⟨b,o,none⟩)))
  (j:aE M L (bM b cs h)) (k:dG.tab P T=some ⟨f,q,u,z⟩) (l:zB f=false) (m:cs[o]? = some v):Y P c n σ M L ⟨d,.load T x,ty,pos,aft,g⟩ v:=λa w s t=>by
 obtain⟨F,i⟩:=j.st t;simp[execOp,s.eval p,Az (dG.ok k) l (bM.cell i m)]
theorem lP [dG P] {T E:TypeId} {k v A f B:Nat} {z C:Value} {l:TypeDesc} {x y:Operand} {b:Nat} {i:Int} (q:ev σ x=some (.pointer (some ⟨b,0,none⟩))) (u:ev σ y=some (.int .i64 i))
  (p:dG.tab P T=some ⟨.array k E,v,A,z⟩) (o:dG.tab P E=some ⟨l,f,B,C⟩) (m:(f==0)=false) (h:0<=i∧i<(k:Int)):
  Y P c n σ M L ⟨d,.indexAddr T x y,ty,pos,aft,g⟩ (.pointer (some ⟨b,i.toNat*f,none⟩)):=λa w s t=>by
 have j:f≠0:=by simpa using m
 simp[execOp,s.eval q,s.eval u,Instr.indexAt,asIntOf,(dG.ok p).run_und w,h,Instr.sureAddr,(dG.ok o).run_size w,j,fR]
end
section
variable {P:Program} {rd:Option Nat} {c:xD} {n:Sz} {σ:Fr} {M L M' L':List bF} {Q:Exit->Act->World->Prop} {ops:Array Oper} {rest:List Oper} {K:Act->World->Prop}
variable {d:Option Tmp} {D:Nat} {ty:TypeId} {pos:String} {aft:Array Edge} {g:Option (Nat×Bool)}
variable {α β:Type} {e:fQ α} {r:fT α}
theorem aN.b {A:Nat->Bool} {f a M L:List bF} {j:Nat} {H:List (Nat×List bF×List bF)} (h:A j=true) (k:aN A f a H):aN A f a ((j,M,L)::H):=⟨.inl h,k⟩
theorem aN.h {A:Nat->Bool} {b a M L:List bF} {j:Nat} {H:List (Nat×List bF×List bF)} (h:a_ M b) (f:Bz L a) (k:aN A b a H):aN A b a ((j,M,L)::H):=⟨.inr ⟨h,f⟩,k⟩
theorem aN.z {A:Nat->Bool} {b a:List bF}:aN A b a []:=trivial
theorem Di.b {A:Nat->Bool} {f a M L:List bF} {j:Nat} {H:List (Nat×List bF×List bF)} (h:A j=true) (k:Di A M L H):Di A M L ((j,f,a)::H):=⟨.inl h,k⟩
theorem Di.h {A:Nat->Bool} {b a M L:List bF} {j:Nat} {H:List (Nat×List bF×List bF)} (h:a_ M b) (f:Bz L a) (k:Di A M L H):Di A M L ((j,b,a)::H):=⟨.inr ⟨h,f⟩,k⟩
theorem Di.z {A:Nat->Bool} {M L:List bF}:Di A M L []:=trivial
theorem eB {v:Value} {vs:List Value} (h:one v=true) (k:vs.all one=true):(v::vs).all one=true:=by simp[h,k]
theorem dX (k:IntKind) (x:Int):(Value.int k x).cells = #[.int k x]:=rfl
theorem dA (b:Bool):(Value.bool b).cells = #[.bool b]:=rfl
theorem cM (a:Option Addr) (l k:Nat):(Value.slice a l k).cells = #[.slice a l k]:=rfl
theorem dY (a:Option Addr):(Value.pointer a).cells = #[.pointer a]:=rfl
theorem dZ (a:ByteArray):(Value.string a).cells = #[.string a]:=rfl
theorem dB (f:Fn) (a b:Array Value):(Value.func f a b).cells = #[.func f a b]:=rfl
theorem CF (q:Nat) {vs:List Value} {a:List (List α)} {k:Int} {u:Value} (s:M[q]? = some (nH e (vs.set k.toNat u) a)) (h:0<=k∧k<a.length):∀c w,St c M L w->Go.Sx.one u=true:=λc w t=>by
 obtain⟨S,p,x,m,_⟩:=t.res s;have f:k.toNat<vs.length:=by simp at p;omega
 obtain⟨_,_,o⟩:=m k.toNat u _ (by rw[zAm f]) (zA0 (by omega));rcases o with⟨i,_⟩|⟨b,v,j,T,l,i,_⟩<;>(rw[i];rfl)
theorem Wp [dG P] [Inhabited α] {T o:TypeId} {C:Nat} {z:Value} {l:TypeDesc} {x:Operand} {b k:Nat} {i:Int} {f:List α} {u:Value} (m:ev σ x=some (.pointer (some ⟨b,i.toNat*1,none⟩)))
  (q:aE M L (bM b (cellsOf e f) o)) (v:dG.tab P T=some ⟨l,1,C,z⟩) (y:zB l=false) (A:e.sz=1) (B:(e.enc (at' f i))=[u]) (h:(0<=i∧i<(k:Int))∧f.length=k):
  Y P c n σ M L ⟨d,.load T x,ty,pos,aft,g⟩ u:=λa w s t=>by
 obtain⟨F,p⟩:=q.st t;have j:=yO e f i.toNat (at' f i) (mJ h.1.1 (by omega)) 0 u (by rw[B];rfl);rw[A,Nat.add_zero]at j;rw[Nat.mul_one]at m j;simp[execOp,s.eval m,Az (dG.ok v) y (bM.cell p j)]
theorem Ls [dG P] (q:Nat) {T j:TypeId} {B:Nat} {z:Value} {p:TypeDesc} {x y:Operand} {b k:Nat} {i:Int} {a:List α} {u:Value} (o:α) (h:(0<=i∧i<(k:Int))∧a.length=k) (m:ev σ x=some (.pointer (some ⟨b,i.toNat*1,none⟩))) (A:ev σ y=some u)
  (s:M[q]? = some (bM b (cellsOf e a) j)) (w:e.enc o=[u]) (f:one u=true) (t:dG.tab P T=some ⟨p,1,B,z⟩) (l:e.sz=1)
  (v:J c n σ (M.set q (bM b (cellsOf e (a.set i.toNat o)) j)) L (wpList P ops Q rest)):
  J c n σ M L (wpList P ops Q (⟨none,.store T x y,ty,pos,aft,none⟩::rest)):=by
 rw[Nat.mul_one]at m;refine fK q m A f s t ?_ ?_
 ·have:=eZ e a;rw[l]at this;rw[zAw];omega
 ·rw[<-zF l w];exact v
end
end Go.Sx
namespace Go.Sx
abbrev vI (x:Int):Value:= .int .i64 x
abbrev vU (x:Int):Value:= .int .u32 x
abbrev vP (b:Nat):Value:= .pointer (some ⟨b,0,none⟩)
open Go.RowKit
variable {P:Program} {rd:Option Nat} {c:xD} {n:Sz} {σ:Fr} {M L:List bF} {Q:Exit->Act->World->Prop} {ops:Array Oper} {rest:List Oper} {d:Nat} {ty:TypeId} {pos:String} {aft:Array Edge} {x y:Operand} {v:Value} {K:Act->World->Prop}
theorem aA (h:(ev σ x,Nat.blt d n.sz)=(some v,true)) (k:J c n ((d,v)::σ) M L (wpList P ops Q rest)):J c n σ M L (wpList P ops Q (⟨some d,.move x,ty,pos,aft,none⟩::rest)):=aD (gN (Prod.mk.inj h).1) (Prod.mk.inj h).2 k
theorem aC (h:(ev σ x,Nat.blt d n.sz)=(some v,true)) (k:J c n ((d,v)::σ) M L (wpList P ops Q rest)):J c n σ M L (wpList P ops Q (⟨some d,.assign x,ty,pos,aft,none⟩::rest)):=aD (wO (Prod.mk.inj h).1) (Prod.mk.inj h).2 k
theorem bY [dG P] {T:TypeId} {r s i t:Nat} {z w:Value} {e:Array Field} {p u q:String} {m:Bool} {g a j:Nat} {l:TypeDesc} {b o f:Nat} (h:(ev σ x,dG.tab P T,e[f]?,dG.tab P g,i==0,Nat.blt d n.sz)=(some (.pointer (some ⟨b,o,none⟩)),some ⟨.struct e,r,s,z⟩,some ⟨p,g,a,m,u,q,j⟩,some ⟨l,i,t,w⟩,false,true)) (k:J c n ((d,.pointer (some ⟨b,o+a,none⟩))::σ) M L (wpList P ops Q rest)):J c n σ M L (wpList P ops Q (⟨some d,.fieldAddr T x f,ty,pos,aft,none⟩::rest)):=by
  simp only[Prod.mk.injEq]at h;exact aD (eI h.1 h.2.1 h.2.2.1 h.2.2.2.1 h.2.2.2.2.1) h.2.2.2.2.2 k
theorem cR [dG P] (i:Nat) {T e:TypeId} {f g:Nat} {z:Value} {a:TypeDesc} {b o:Nat} {cs:List Value} (h:(ev σ x,M[i]?,dG.tab P T,zB a,cs[o]?,Nat.blt d n.sz)=(some (.pointer (some ⟨b,o,none⟩)),some (bM b cs e),some ⟨a,f,g,z⟩,false,some v,true)) (k:J c n ((d,v)::σ) M L (wpList P ops Q rest)):J c n σ M L (wpList P ops Q (⟨some d,.load T x,ty,pos,aft,none⟩::rest)):=by
  simp only[Prod.mk.injEq]at h;exact aD (d_ i h.1 h.2.1 h.2.2.1 h.2.2.2.1 h.2.2.2.2.1) h.2.2.2.2.2 k
theorem cA [dG P] (i:Nat) {T e:TypeId} {f:Nat} {z:Value} {a:TypeDesc} {b:Nat} {cs:List Value} (h:(ev σ x,M[i]?,dG.tab P T,zB a,Nat.blt d n.sz)=(some (.pointer (some ⟨b,0,none⟩)),some (bM b cs e),some ⟨a,cs.length,f,z⟩,true,true)) (k:J c n ((d,.agg cs.toArray)::σ) M L (wpList P ops Q rest)):J c n σ M L (wpList P ops Q (⟨some d,.load T x,ty,pos,aft,none⟩::rest)):=by
  simp only[Prod.mk.injEq]at h;exact aD (jX i h.1 h.2.1 h.2.2.1 h.2.2.2.1) h.2.2.2.2 k
theorem aL {e:Op} {j:Nat} {b a:Bool} (h:(gv ops σ j,a==b,Nat.blt d n.sz)=(some a,false,true)) (k:J c n ((d,undef)::σ) M L (wpList P ops Q rest)):J c n σ M L (wpList P ops Q (⟨some d,e,ty,pos,aft,some (j,b)⟩::rest)):=by
  simp only[Prod.mk.injEq]at h;exact XK h.1 h.2.1 h.2.2 k
theorem eG {j:Nat} {b:Bool} (h:(gv ops σ j,ev σ x,Nat.blt d n.sz)=(some b,some v,true)) (k:J c n ((d,v)::σ) M L (wpList P ops Q rest)):J c n σ M L (wpList P ops Q (⟨some d,.move x,ty,pos,aft,some (j,b)⟩::rest)):=by
  simp only[Prod.mk.injEq]at h;exact aW h.1 (gN h.2.1) h.2.2 k
theorem cO {t a:TypeId} {i:IntKind} {p q:Int} (h:(ev σ x,ev σ y,Nat.blt d n.sz)=(some (.int i p),some (.int i q),true)) (k:J c n ((d,.bool (decide (p<q)))::σ) M L (wpList P ops Q rest)):J c n σ M L (wpList P ops Q (⟨some d,.binOp .lss t x y a,ty,pos,aft,none⟩::rest)):=by
  simp only[Prod.mk.injEq]at h;exact aD (GN h.1 h.2.1) h.2.2 k
theorem bS {t a:TypeId} {i:IntKind} {p q:Int} (h:(ev σ x,ev σ y,Nat.blt d n.sz)=(some (.int i p),some (.int i q),true)) (k:J c n ((d,.bool (decide (p=q)))::σ) M L (wpList P ops Q rest)):J c n σ M L (wpList P ops Q (⟨some d,.binOp .eql t x y a,ty,pos,aft,none⟩::rest)):=by
  simp only[Prod.mk.injEq]at h;exact aD (QM h.1 h.2.1) h.2.2 k
theorem cH {t a:TypeId} {i:IntKind} {p q:Int} (h:(ev σ x,ev σ y,Nat.blt d n.sz)=(some (.int i p),some (.int i q),true)) (k:J c n ((d,.int i (wI i (p+q)))::σ) M L (wpList P ops Q rest)):J c n σ M L (wpList P ops Q (⟨some d,.binOp .add t x y a,ty,pos,aft,none⟩::rest)):=by
  simp only[Prod.mk.injEq]at h;exact aD (yE h.1 h.2.1) h.2.2 k
theorem cdI {e b:Code} {p:Prop} {_:Decidable p} {f:Type} {u w:Option f} {r:f} (h:(if p then u else w)=some r) (j:ev σ x=some (.bool (decide p))) (i:p->u=some r->J c n σ M L (e.wpr rd P Q)) (g:¬p->w=some r->J c n σ M L (b.wpr rd P Q)):J c n σ M L ((Code.cond x e b).wpr rd P Q):=aaY j (λa=>i a (Kx a h)) (λa=>g a (Xy a h))
theorem dK {b a:Code} {p:Prop} {_:Decidable p} {e:Type} {u w:Option e} {r:e} (h:(if p then u else w)=some r) (i:ev σ x=some (.bool (decide p))) (g:u=some r->J c n σ M L (b.wpr rd P Q)) (f:w=some r->J c n σ M L (a.wpr rd P Q)):J c n σ M L ((Code.cond x b a).wpr rd P Q):=cdI h i (λ_=>g) (λ_=>f)
theorem yW {f e:Code} {b:Bool} {g:Type} {u w:Option g} {r:g} (h:(if b=true then u else w)=some r) (k:ev σ x=some (.bool b)) (j:b=true->u=some r->J c n σ M L (f.wpr rd P Q)) (i:b=false->w=some r->J c n σ M L (e.wpr rd P Q)):J c n σ M L ((Code.cond x f e).wpr rd P Q):=OF k (λa=>j a (Kx a h)) (λa=>i a (Ju a h))
theorem Eb {d:Option Tmp} {f:Op} {j e:Nat} {p:Prop} {_:Decidable p} {b:Bool} {i:Type} {u w:Option i} {r:i} (h:(if p then u else w)=some r) (g:((ops[j]?).bind (·.dst),lk σ e)=(some e,some (.bool (decide p)))) (l:p->u=some r->J c n ((e,.bool true)::σ) M L (wpList P ops Q (⟨d,f,ty,pos,aft,some (j,b)⟩::rest))) (k:¬p->w=some r->J c n ((e,.bool false)::σ) M L (wpList P ops Q (⟨d,f,ty,pos,aft,some (j,b)⟩::rest))):J c n σ M L (wpList P ops Q (⟨d,f,ty,pos,aft,some (j,b)⟩::rest)):=XJ (Prod.mk.inj g).1 (Prod.mk.inj g).2 (λa=>l a (Kx a h)) (λa=>k a (Xy a h))
theorem aJ {ops:Array Oper} (h:J c n σ M L K):J c n σ M L (wpList P ops (Exit.then K Q) []):=h
theorem aP {id:Nat} {l:List Oper} {z:Code} (h:J c n σ M L (wpList P l.toArray (Exit.then (z.wpr rd P Q) Q) l)) (a:l.all kM=true:=by rfl):J c n σ M L ((Code.seq (Code.region id l.toArray false) z).wpr rd P Q):=aK (aQ h a)
variable {A B:Type} {ret:Unit->Value} {MO LO:Unit->List bF->List bF} {fn:Func} {C:A->Prop} {σI:A->B->Fr} {MI LI:A->B->List bF}
theorem kY {t:Tmp} (h:(ret (),fn.results,lk σ t,MO () [],LO () [],n.ds)=(v,#[.tmp t],some v,M,[],[])):J c n σ M L (iX P fn (Qz c ret MO LO) .ret):=by
  simp only[Prod.mk.injEq]at h;exact eR () h.1 h.2.1 (RV.tmp h.2.2.1) (h.2.2.2.1▸a_.refl _) (by rw[h.2.2.2.2.1];exact aB.nil) h.2.2.2.2.2
theorem sB {t:Tmp} (h:(ret (),fn.results,lk σ t,MO () [],LO () [],n.ds)=(v,#[.tmp t],some v,[],[],[])):J c n σ M L (iX P fn (Qz c ret MO LO) .ret):=by
  simp only[Prod.mk.injEq]at h;exact eR () h.1 h.2.1 (RV.tmp h.2.2.1) (by rw[h.2.2.2.1];exact a_.nil) (by rw[h.2.2.2.2.1];exact aB.nil) h.2.2.2.2.2
theorem El {x:Code} (C:A->Prop) (σI:A->B->Fr) (MI:A->B->List bF) (e:J c n σ M L (x.wpr rd P (Exit.then (XU c n C σI MI (λ_ _=>L)) Q))) (f:∀a b,C a->J c n (σI a b) (MI a b) L K):J c n σ M L (x.wpr rd P (Exit.then K Q)):=Hh C σI MI (λ_ _=>L) e f
theorem eO {R:Type} {f:Code} (e:A->(A->Option R)->Option R) {r:R} {U:Nat} (σI:A->B->Fr) (MI:A->B->List bF) (i:A) (j:B) (h:bH e U i=some r) (m:Ah σ (σI i j)) (l:a_ M (MI i j)) (g:∀k a b,e a (bH e k)=some r->J c n (σI a b) (MI a b) L (f.wpr rd P (Exit.then (aaX c n e r σI MI (λ_ _=>L) k) Q))):J c n σ M L ((Code.loop f).wpr rd P Q):=KL e σI MI (λ_ _=>L) i j h m l (aB.refl _ _) g
theorem eJ {x:Code} (C:A->Prop) (σI:A->Unit->Fr) (MI:A->Unit->List bF) (e:J c n σ M L (x.wpr rd P (Exit.then (XU c n C σI MI (λ_ _=>L)) Q))) (f:∀a b,C a->J c n (σI a b) (MI a b) L K):J c n σ M L (x.wpr rd P (Exit.then K Q)):=El C σI MI e f
theorem cG (h:J c n σ M L K):J c n σ M L (Code.skip.wpr rd P (Exit.then K Q)):=dD h
theorem lU {id:Nat} (h:J c n σ M L K):J c n σ M L (Exit.inBlock id (Exit.then K Q) .normal):=h
theorem fL {id:Nat} {a b:Act->World->Prop} (h:J c n σ M L K):J c n σ M L ((Code.exit id).wpr rd P (Exit.then a (Exit.then b (Exit.inBlock id (Exit.then K Q))))):=sD (fD (fD (yY (CE h))))
theorem iH (x:A) (y:B) (a:C x) (b:Ah σ (σI x y)) (h:(MI x y,LI x y)=(M,L)):J c n σ M L (XU c n C σI MI LI):=bW x y a b ((Prod.mk.inj h).1▸a_.refl _) ((Prod.mk.inj h).2▸aB.refl _ _)
theorem AS {R:Type} {a:A->(A->Option R)->Option R} {r:R} {k:Nat} (x:A) (y:B) (h:bH a k x=some r) (b:Ah σ (σI x y)) (e:(MI x y,LI x y)=(M,L)):J c n σ M L (aaX c n a r σI MI LI k):=kO x y h b ((Prod.mk.inj e).1▸a_.refl _) ((Prod.mk.inj e).2▸aB.refl _ _)
theorem zBb {A:Type} {ret:A->Value} {MO:A->List bF->List bF} {f:FuncId} {h:List Operand} {vs:List Value} {a:Array TypeId} {e:List bF} {d:Option Tmp} {g:Option (Nat×Bool)} (j:aS P f) (k:aY P f vs.toArray e ret MO (λ_ l=>l)) (m:h.map (ev σ)=vs.map some) (i:aB M L e) (b:∀x l,MO x l=MO x []++l:=by exact λ_ _=>rfl):aI P c n σ M L ⟨d,.call ⟨.value (.func f),h.toArray,a⟩,ty,pos,aft,g⟩ ret (λx=>MO x M) (λ_=>L):=Te j k m i b
variable {l:List Oper} {m:List Nat} {k0:Nat} {Bs:List (Nat×List bF×List bF)} {rs:List Nat} {i:Nat}
theorem bA (h:(l[i]?,ev σ x,Nat.blt i k0,Nat.blt d n.sz)=(some ⟨some d,.move x,ty,pos,aft,none⟩,some v,true,true)) (k:JR c n ((d,v)::σ) M L [] ((i,[],[])::Bs) (RW P l.toArray Q (before m) (dW l) k0 rs)):JR c n σ M L [] Bs (RW P l.toArray Q (before m) (dW l) k0 (i::rs)):=by
  simp only[Prod.mk.injEq]at h;exact bG h.1 a_.nil Bz.nil (gN h.2.1) aN.z k h.2.2.1 Z h.2.2.2
theorem dJ [dG P] {T:TypeId} {u w j D:Nat} {z F:Value} {e:Array Field} {s E t:String} {r:Bool} {g a p:Nat} {q:TypeDesc} {b o f:Nat} (h:(l[i]?,ev σ x,dG.tab P T,e[f]?,dG.tab P g,j==0,Nat.blt i k0,Nat.blt d n.sz)=(some ⟨some d,.fieldAddr T x f,ty,pos,aft,none⟩,some (.pointer (some ⟨b,o,none⟩)),some ⟨.struct e,u,w,z⟩,some ⟨s,g,a,r,E,t,p⟩,some ⟨q,j,D,F⟩,false,true,true)) (k:JR c n ((d,.pointer (some ⟨b,o+a,none⟩))::σ) M L [] ((i,[],[])::Bs) (RW P l.toArray Q (before m) (dW l) k0 rs)):JR c n σ M L [] Bs (RW P l.toArray Q (before m) (dW l) k0 (i::rs)):=by
  simp only[Prod.mk.injEq]at h;exact bG h.1 a_.nil Bz.nil (eI h.2.1 h.2.2.1 h.2.2.2.1 h.2.2.2.2.1 h.2.2.2.2.2.1) aN.z k h.2.2.2.2.2.2.1 Z h.2.2.2.2.2.2.2
theorem fG [dG P] (p:Nat) {T a:TypeId} {f g:Nat} {z:Value} {e:TypeDesc} {b o:Nat} {cs:List Value} (h:(l[i]?,ev σ x,M[p]?,dG.tab P T,zB e,cs[o]?,Nat.blt i k0,Nat.blt d n.sz)=(some ⟨some d,.load T x,ty,pos,aft,none⟩,some (.pointer (some ⟨b,o,none⟩)),some (bM b cs a),some ⟨e,f,g,z⟩,false,some v,true,true)) (k:JR c n ((d,v)::σ) M L [] ((i,[bM b cs a],[])::Bs) (RW P l.toArray Q (before m) (dW l) k0 rs)):JR c n σ M L [] Bs (RW P l.toArray Q (before m) (dW l) k0 (i::rs)):=by
  simp only[Prod.mk.injEq]at h;exact bG h.1 (a_.cons p h.2.2.1 a_.nil) Bz.nil (d_ 0 h.2.1 Z h.2.2.2.1 h.2.2.2.2.1 h.2.2.2.2.2.1) aN.z k h.2.2.2.2.2.2.1 Z h.2.2.2.2.2.2.2
theorem fX [dG P] (p:Nat) {T a:TypeId} {f:Nat} {z:Value} {e:TypeDesc} {b:Nat} {cs:List Value} (h:(l[i]?,ev σ x,M[p]?,dG.tab P T,zB e,Nat.blt i k0,Nat.blt d n.sz)=(some ⟨some d,.load T x,ty,pos,aft,none⟩,some (.pointer (some ⟨b,0,none⟩)),some (bM b cs a),some ⟨e,cs.length,f,z⟩,true,true,true)) (k:JR c n ((d,.agg cs.toArray)::σ) M L [] ((i,[bM b cs a],[])::Bs) (RW P l.toArray Q (before m) (dW l) k0 rs)):JR c n σ M L [] Bs (RW P l.toArray Q (before m) (dW l) k0 (i::rs)):=by
  simp only[Prod.mk.injEq]at h;exact bG h.1 (a_.cons p h.2.2.1 a_.nil) Bz.nil (jX 0 h.2.1 Z h.2.2.2.1 h.2.2.2.2.1) aN.z k h.2.2.2.2.2.1 Z h.2.2.2.2.2.2
end Go.Sx
end
