/- Models of functions with their proofs, by program (gen/xt.py), and plain laws, in one text. Conditions: none. -/
import Derived.Test.YtfbkplemadmbfaaGreatDoorZRJu3
import Derived.Lib.Strings
import Derived.Laws.StructEq
set_option linter.unusedVariables false
set_option linter.unusedSimpArgs false
set_option maxHeartbeats 4000000
set_option maxRecDepth 20000
section
namespace Go.Gx
open Go Go.Sx
section
variable {α β:Type}
theorem ob_some {o:Option α} {f:α->Option β} {r:β}:ob o f=some r↔∃x,o=some x∧f x=some r:=by
 cases o<;>simp[ob]
theorem bif_some {b:Bool} {x:Option α} {r:α}:(bif b then x else none)=some r↔b=true∧x=some r:=by
 cases b<;>simp
theorem bif_some' {b:Bool} {x:Option α} {r:α}:(bif b then none else x)=some r↔b=false∧x=some r:=by
 cases b<;>simp
theorem sn_eq (n:Nat) (f:Nat->α):sn n f=f n:=by cases n<;>rfl
theorem fi_eq (z:Int) (f:Int->α):fi z f=f z:=by cases z<;>simp[fi,sn_eq]
theorem nth_eq (l:List α):∀n,nth l n=l[n]?:=by
 induction l with
 |nil=>intro n;rfl
 |cons x l ih=>intro n;cases n with
  |zero=>rfl
  |succ n=>exact ih n
theorem lset_eq {v:α}:∀{l l':List α} {n:Nat},lset v l n=some l'->n<l.length∧l'=l.set n v:=by
 intro l
 induction l with
 |nil=>intro l' n h;cases h
 | cons x l ih => intro l' n h; cases n with
  |zero=>cases h;simp
  |succ n=>
   obtain⟨r,h1,h2⟩:=ob_some.1 (show ob (lset v l n) (fun r'=>some (x::r'))=some l' from h)
   obtain⟨h3,h4⟩:=ih h1
   cases h2;simp[h3,h4]
theorem tk_eq:∀{l r:List α} {n:Nat},tk l n=some r->n<=l.length∧r=l.take n:=by
 intro l
 induction l with
 |nil=>intro r n h;cases n with
  |zero=>cases h;simp
  |succ n=>cases h
 | cons x l ih => intro r n h; cases n with
  |zero=>cases h;simp
  |succ n=>
   obtain⟨q,h1,h2⟩:=ob_some.1 (show ob (tk l n) (fun r=>some (x::r))=some r from h)
   obtain⟨h3,h4⟩:=ih h1
   cases h2;simp[h3,h4]
theorem dp_eq:∀{l r:List α} {n:Nat},dp l n=some r->n<=l.length∧r=l.drop n:=by
 intro l
 induction l with
 |nil=>intro r n h;cases n with
  |zero=>cases h;simp
  |succ n=>cases h
 |cons x l ih=>intro r n h;cases n with
  |zero=>cases h;simp
  |succ n=>have:=ih (show dp l n=some r from h);simpa using this
theorem slc_eq {l r:List α} {o n:Nat} (h:slc l o n=some r):o+n<=l.length∧r=(l.drop o).take n:=by
 obtain⟨q,h1,h2⟩:=ob_some.1 h
 obtain⟨h3,rfl⟩:=dp_eq h1
 obtain⟨h4,rfl⟩:=tk_eq h2
 simp at h4
 exact⟨by omega,rfl⟩
def wr (vs:List α) (o:Nat) (cs:List α):List α:=cs.take o++vs++cs.drop (o+vs.length)
end
theorem gput_eq:∀{vs cs cs':List GV} {o:Nat},gput vs o cs=some cs'->(vs≠[]->o+vs.length<=cs.length)∧cs'.length=cs.length∧∀i,cs'[i]? = if o<=i∧i<o+vs.length then vs[i - o]? else cs[i]?:=by
 intro vs
 induction vs with
 |nil=>
  intro cs cs' o h
  cases h
  refine⟨fun h=>absurd rfl h,rfl,fun i=> ?_⟩
  rw[if_neg (by simp)]
 | cons v vs ih =>
  intro cs cs' o h
  obtain⟨c1,h1,h2⟩:=ob_some.1 (show ob (lset v cs o) (fun cs'=>sn (Nat.succ o) fun o'=>gput vs o' cs')=some cs' from h)
  rw[sn_eq]at h2
  obtain⟨h3,rfl⟩:=lset_eq h1
  obtain⟨h4,h5,h6⟩:=ih h2
  simp only[List.length_set,Nat.succ_eq_add_one]at h4 h5 h6
  refine⟨fun _=> ?_,h5,fun i=> ?_⟩
  ·cases vs with
   |nil=>simp;omega
   |cons y ys=>have:=h4 (by simp);simp at this ⊢;omega
  rw[h6 i]
  by_cases e:i=o
  ·subst e
   rw[if_neg (by omega),if_pos (by simp),List.getElem?_set_self h3];simp
  ·by_cases e2:o+1<=i∧i<o+1+vs.length
   ·rw[if_pos e2,if_pos (by simp;omega)]
    have:i - o=(i - (o+1))+1:=by omega
    rw[this,List.getElem?_cons_succ]
   ·rw[if_neg e2,if_neg (by simp;omega),List.getElem?_set_ne (Ne.symm e)]
theorem Tr.get_setN {α:Type} (x:Option α):∀(f n m:Nat),n<f->(Tr.setN x f n).get m=if m=n then x else none:=by
 intro f
 induction f with
 |zero=>intro n m h;omega
 | succ f ih =>
  intro n m h
  show Tr.get (bif Nat.beq n 0 then .nd x .lf .lf else bif Nat.beq (Nat.mod n 2) 1 then .nd none (Tr.setN x f (Nat.div n 2)) .lf else .nd none .lf (Tr.setN x f (Nat.sub (Nat.div n 2) 1))) m=_
  have hg:∀(a:Option α) (l r:Tr α),Tr.get (.nd a l r) m=if m=0 then a else if m%2=1 then l.get (m / 2)else r.get (m / 2 - 1):=fun a l r=>by
   show Bool.casesOn (motive:=fun _=>Option α) (Nat.beq m 0) (Bool.casesOn (motive:=fun _=>Option α) (Nat.beq (Nat.mod m 2) 1) (r.get (Nat.sub (Nat.div m 2) 1)) (l.get (Nat.div m 2))) a=_
   by_cases h0:m=0
   ·subst h0;rfl
   ·rw[if_neg h0,beq_ne h0]
    by_cases h1:m%2=1
    ·rw[if_pos h1]
     have:Nat.beq (Nat.mod m 2) 1=true:=by rw[show Nat.mod m 2=1 from h1];rfl
     rw[this];rfl
    ·rw[if_neg h1]
     have:Nat.beq (Nat.mod m 2) 1=false:=beq_ne h1
     rw[this];rfl
  have hlf:∀k,(Tr.lf:Tr α).get k=none:=fun _=>rfl
  have hd:Nat.div n 2=n / 2:=rfl
  have hs:Nat.sub (Nat.div n 2) 1=n / 2 - 1:=rfl
  by_cases h0:n=0
  ·subst h0
   show Tr.get (.nd x .lf .lf) m=_
   simp only[hg,hlf]
   by_cases hm:m=0<;>simp[hm]
  ·rw[beq_ne h0]
   by_cases h1:n%2=1
   ·have:Nat.beq (Nat.mod n 2) 1=true:=by rw[show Nat.mod n 2=1 from h1];rfl
    simp only[this,cond_true,cond_false,hg,hlf,hd]
    rw[ih _ _ (by omega)]
    by_cases hm:m=0
    ·rw[if_pos hm,if_neg (by omega)]
    ·rw[if_neg hm]
     by_cases h2:m%2=1
     ·rw[if_pos h2];by_cases h3:m=n
      ·subst h3;simp
      ·rw[if_neg h3,if_neg (by omega)]
     ·rw[if_neg h2,if_neg (by intro e;subst e;exact h2 h1)]
   ·have:Nat.beq (Nat.mod n 2) 1=false:=beq_ne h1
    simp only[this,cond_true,cond_false,hg,hlf,hs]
    rw[ih _ _ (by omega)]
    by_cases hm:m=0
    ·rw[if_pos hm,if_neg (by omega)]
    ·rw[if_neg hm]
     by_cases h2:m%2=1
     ·rw[if_pos h2,if_neg (by intro e;subst e;exact h1 h2)]
     ·rw[if_neg h2];by_cases h3:m=n
      ·subst h3;simp
      ·rw[if_neg h3,if_neg (by omega)]
theorem Tr.get_set {α:Type} (x:Option α):∀(t:Tr α) (n m:Nat),(t.set x n).get m=if m=n then x else t.get m:=by
 intro t
 induction t with
 |lf=>intro n m;exact Tr.get_setN x _ n m (Nat.lt_succ_self n)
 | nd a l r ihl ihr =>
  intro n m
  have hg:∀(a:Option α) (l r:Tr α),Tr.get (.nd a l r) m=if m=0 then a else if m%2=1 then l.get (m / 2)else r.get (m / 2 - 1):=fun a l r=>by
   show Bool.casesOn (motive:=fun _=>Option α) (Nat.beq m 0) (Bool.casesOn (motive:=fun _=>Option α) (Nat.beq (Nat.mod m 2) 1) (r.get (Nat.sub (Nat.div m 2) 1)) (l.get (Nat.div m 2))) a=_
   by_cases h0:m=0
   ·subst h0;rfl
   ·rw[if_neg h0,beq_ne h0]
    by_cases h1:m%2=1
    ·rw[if_pos h1]
     have:Nat.beq (Nat.mod m 2) 1=true:=by rw[show Nat.mod m 2=1 from h1];rfl
     rw[this];rfl
    ·rw[if_neg h1]
     have:Nat.beq (Nat.mod m 2) 1=false:=beq_ne h1
     rw[this];rfl
  show Tr.get (Bool.casesOn (motive:=fun _=>Tr α) (Nat.beq n 0) (Bool.casesOn (motive:=fun _=>Tr α) (Nat.beq (Nat.mod n 2) 1) (.nd a l (r.set x (Nat.sub (Nat.div n 2) 1))) (.nd a (l.set x (Nat.div n 2)) r)) (.nd x l r)) m=_
  have hd:Nat.div n 2=n / 2:=rfl
  have hs:Nat.sub (Nat.div n 2) 1=n / 2 - 1:=rfl
  by_cases h0:n=0
  ·subst h0
   show Tr.get (.nd x l r) m=_
   rw[hg,hg];by_cases hm:m=0<;>simp[hm]
  ·rw[beq_ne h0]
   by_cases h1:n%2=1
   ·have:Nat.beq (Nat.mod n 2) 1=true:=by rw[show Nat.mod n 2=1 from h1];rfl
    rw[this]
    show Tr.get (.nd a (l.set x (Nat.div n 2)) r) m=_
    rw[hg,hg,ihl,hd]
    by_cases hm:m=0
    ·rw[if_pos hm,if_pos hm,if_neg (by omega)]
    ·rw[if_neg hm,if_neg hm]
     by_cases h2:m%2=1
     ·rw[if_pos h2,if_pos h2];by_cases h3:m=n
      ·subst h3;simp
      ·rw[if_neg h3,if_neg (by omega)]
     ·rw[if_neg h2,if_neg h2,if_neg (by intro e;subst e;exact h2 h1)]
   ·have:Nat.beq (Nat.mod n 2) 1=false:=beq_ne h1
    rw[this]
    show Tr.get (.nd a l (r.set x (Nat.sub (Nat.div n 2) 1))) m=_
    rw[hg,hg,ihr,hs]
    by_cases hm:m=0
    ·rw[if_pos hm,if_pos hm,if_neg (by omega)]
    ·rw[if_neg hm,if_neg hm]
     by_cases h2:m%2=1
     ·rw[if_pos h2,if_pos h2,if_neg (by intro e;subst e;exact h1 h2)]
     ·rw[if_neg h2,if_neg h2];by_cases h3:m=n
      ·subst h3;simp
      ·rw[if_neg h3,if_neg (by omega)]
theorem GH.get_set (H:GH) (h:Nat) (o:GO) (k:Nat):(H.set h o).get k=if k=h then some o else H.get k:=by
 unfold GH.get GH.set
 rw[Tr.get_set]
 by_cases e:k=h<;>simp[e,ob]
theorem GH.ver_set (H:GH) (h:Nat) (o:GO) (k:Nat):(H.set h o).ver k=if k=h then some H.n else H.ver k:=by
 unfold GH.ver GH.set
 rw[Tr.get_set]
 by_cases e:k=h<;>simp[e,ob]
theorem GH.get_del (H:GH) (h k:Nat):(H.del h).get k=if k=h then none else H.get k:=by
 unfold GH.get GH.del
 rw[Tr.get_set]
 by_cases e:k=h<;>simp[e,ob]
theorem GH.ver_del (H:GH) (h k:Nat):(H.del h).ver k=if k=h then none else H.ver k:=by
 unfold GH.ver GH.del
 rw[Tr.get_set]
 by_cases e:k=h<;>simp[e,ob]
noncomputable def GH.new (H:GH) (o:GO):GH:=⟨H.n+1,H.t.set (some (H.n,o)) H.n⟩
theorem GH.get_new (H:GH) (o:GO) (k:Nat):(H.new o).get k=if k=H.n then some o else H.get k:=by
 unfold GH.get GH.new
 rw[Tr.get_set]
 by_cases e:k=H.n<;>simp[e,ob]
theorem GH.ver_new (H:GH) (o:GO) (k:Nat):(H.new o).ver k=if k=H.n then some H.n else H.ver k:=by
 unfold GH.ver GH.new
 rw[Tr.get_set]
 by_cases e:k=H.n<;>simp[e,ob]
theorem Tr.setNK_eq {α R:Type} (x:Option α):∀(f n:Nat) (k:Tr α->R),Tr.setNK x f n k=k (Tr.setN x f n):=by
 intro f
 induction f with
 |zero=>intro n k;rfl
 |succ f ih=>
  intro n k
  show Bool.casesOn (motive:=fun _=>R) (Nat.beq n 0) (Bool.casesOn (motive:=fun _=>R) (Nat.beq (Nat.mod n 2) 1) (Tr.setNK x f (Nat.sub (Nat.div n 2) 1) fun t=>k (.nd none .lf t)) (Tr.setNK x f (Nat.div n 2) fun t=>k (.nd none t .lf))) (k (.nd x .lf .lf))=k (bif Nat.beq n 0 then .nd x .lf .lf else bif Nat.beq (Nat.mod n 2) 1 then .nd none (Tr.setN x f (Nat.div n 2)) .lf else .nd none .lf (Tr.setN x f (Nat.sub (Nat.div n 2) 1)))
  rw[ih,ih]
  cases Nat.beq n 0<;>cases Nat.beq (Nat.mod n 2) 1<;>rfl
theorem Tr.setK_eq {α R:Type} (x:Option α):∀(t:Tr α) (n:Nat) (k:Tr α->R),t.setK x n k=k (t.set x n):=by
 intro t
 induction t with
 |lf=>intro n k;exact Tr.setNK_eq x (Nat.succ n) n k
 |nd a l r ihl ihr=>
  intro n k
  show Bool.casesOn (motive:=fun _=>R) (Nat.beq n 0) (Bool.casesOn (motive:=fun _=>R) (Nat.beq (Nat.mod n 2) 1) (r.setK x (Nat.sub (Nat.div n 2) 1) fun t=>k (.nd a l t)) (l.setK x (Nat.div n 2) fun t=>k (.nd a t r))) (k (.nd x l r))=k (Bool.casesOn (motive:=fun _=>Tr α) (Nat.beq n 0) (Bool.casesOn (motive:=fun _=>Tr α) (Nat.beq (Nat.mod n 2) 1) (.nd a l (r.set x (Nat.sub (Nat.div n 2) 1))) (.nd a (l.set x (Nat.div n 2)) r)) (.nd x l r))
  rw[ihl,ihr]
  cases Nat.beq n 0<;>cases Nat.beq (Nat.mod n 2) 1<;>rfl
theorem GH.newK_eq {α:Type} (H:GH) (o:GO) (f:Nat->GH->α):H.newK o f=f H.n (H.new o):=by simp only[GH.newK,sn_eq,Tr.setK_eq];rfl
theorem GH.setK_eq {α:Type} (H:GH) (h:Nat) (o:GO) (f:GH->α):H.setK h o f=f (H.set h o):=by simp only[GH.setK,sn_eq,Tr.setK_eq];rfl
theorem GH.delK_eq {α:Type} (H:GH) (h:Nat) (f:GH->α):H.delK h f=f (H.del h):=by simp only[GH.delK,Tr.setK_eq];rfl
theorem lap_eq {R:Type} (a b:List GV):∀k:List GV->R,lap a b k=k (a++b):=by
 induction a with
 |nil=>intro k;rfl
 |cons x a ih=>intro k;exact ih _
theorem fc_eq {R:Type} (a:List GV):∀k:List GV->R,fc a k=k a:=by
 induction a with
 |nil=>intro k;rfl
 |cons x a ih=>intro k;exact ih _
theorem delSK_eq (H:GH) (v:GV) (f:GH->OR):delSK H v f=f (delS H v):=by
 unfold delSK delS
 cases v.asS with
 |none=>rfl
 |some s=>exact GH.delK_eq H s.1 f
theorem GH.cells_eq {H:GH} {h:Nat} {cs:List GV}:H.cells h=some cs↔H.get h=some (.cells cs):=by
 unfold GH.cells
 rw[ob_some]
 constructor
 ·rintro⟨o,h1,h2⟩;cases o with
  |cells c=>cases h2;exact h1
  |mp e=>cases h2
 ·intro h;exact⟨_,h,rfl⟩
theorem GO.asM_eq {o:GO} {es:List (GV×GV)} (h:o.asM=some es):o = .mp es:=by
 cases o with
 |cells c=>cases h
 |mp e=>cases h;rfl
theorem glk_cons (k:Nat) (v:GV) (σ:GF) (t:Nat):glk ((k,v)::σ) t=if t=k then some v else glk σ t:=by
 show Bool.casesOn (motive:=fun _=>Option GV) (Nat.beq t k) (glk σ t) (some v)=_
 by_cases e:t=k
 ·subst e;simp
 ·rw[beq_ne e,if_neg e]
section
variable {v:GV}
theorem asI_eq {p:IntKind×Int} (h:v.asI=some p):v = .int p.1 p.2:=by cases v<;>cases h;rfl
theorem asB_eq {p:Bool} (h:v.asB=some p):v = .bool p:=by cases v<;>cases h;rfl
theorem asP_eq {p:Nat×Nat} (h:v.asP=some p):v = .ptr p.1 p.2:=by cases v<;>cases h;rfl
theorem asS_eq {p:Nat×Nat×Nat×Nat} (h:v.asS=some p):v = .sl p.1 p.2.1 p.2.2.1 p.2.2.2:=by cases v<;>cases h;rfl
theorem asF_eq {p:Nat×List GV×List GV} (h:v.asF=some p):v = .fn p.1 p.2.1 p.2.2:=by cases v<;>cases h;rfl
theorem asT_eq {p:List GV} (h:v.asT=some p):v = .tup p:=by cases v<;>cases h;rfl
theorem asA_eq {p:List GV} (h:v.asA=some p):v = .agg p:=by cases v<;>cases h;rfl
theorem asStr_eq {p:Nat×Nat} (h:v.asStr=some p):v = .str p.1 p.2:=by cases v<;>cases h;rfl
theorem asM_eq {p:Nat} (h:v.asM=some p):v = .map p:=by cases v<;>cases h;rfl
theorem isSnil_eq (h:v.isSnil=true):v = .snil:=by cases v<;>first|rfl|cases h
end
section
variable {d:TypeDesc}
theorem tdS_eq {e:TypeId} (h:tdS d=some e):d = .slice e:=by cases d<;>cases h;rfl
theorem tdA_eq {e:Nat×TypeId} (h:tdA d=some e):d = .array e.1 e.2:=by cases d<;>cases h;rfl
theorem tdF_eq {e:Array Field} (h:tdF d=some e):d = .struct e:=by cases d<;>cases h;rfl
theorem tdI_eq {e:IntKind} (h:tdI d=some e):d = .int e:=by cases d<;>cases h;rfl
theorem tdM_eq {e:TypeId×TypeId} (h:tdM d=some e):d = .map e.1 e.2:=by cases d<;>cases h;rfl
theorem tdStr_eq (h:tdStr d=true):d = .string:=by cases d<;>first|rfl|cases h
theorem tdB_eq (h:tdB d=true):d = .bool:=by cases d<;>first|rfl|cases h
end
theorem asN_eq {a:Int} {n:Nat} (h:asN a=some n):a=n:=by cases a<;>cases h;rfl
theorem bdec {b:Bool} {p:Prop} [Decidable p] (h:b=true↔p):b=decide p:=by
 cases b
 ·exact(decide_eq_false fun hp=>by cases h.2 hp).symm
 ·exact(decide_eq_true (h.1 rfl)).symm
theorem ltI_eq (a b:Int):ltI a b=decide (a<b):=by
  refine bdec ?_
  cases a with
  | ofNat a => cases b with
    |ofNat b=>show Nat.blt a b=true↔_;rw[Nat.blt_eq];simp
    | negSucc b => constructor
                   · intro h;cases h
                   · intro h;simp at h;omega
  | negSucc a => cases b with
    | ofNat b => constructor
                 · intro _;have:=Int.negSucc_lt_zero a;simp;omega
                 · intro _;rfl
    |negSucc b=>show Nat.blt b a=true↔_;rw[Nat.blt_eq];omega
theorem eqI_eq (a b:Int):eqI a b=decide (a=b):=by
  refine bdec ?_
  cases a with
  | ofNat a => cases b with
    |ofNat b=>show Nat.beq a b=true↔_;simp;omega
    | negSucc b => constructor
                   · intro h;cases h
                   · intro h;cases h
  | negSucc a => cases b with
    | ofNat b => constructor
                 · intro h;cases h
                 · intro h;cases h
    |negSucc b=>show Nat.beq a b=true↔_;simp
theorem eqB_eq (a b:Bool):eqB a b=(a==b):=by cases a<;>cases b<;>rfl
theorem eqK_eq {a b:IntKind} (h:eqK a b=true):a=b:=of_decide_eq_true h
theorem fb_eq (b:Bool):fb b=some (.bool b):=by cases b<;>rfl
end Go.Gx
end
section
namespace Go.Gx
open Go Go.Sx Go.RowKit
structure Loc where
 b:Nat
 off:Nat
 size:Nat
 x:Obj
 /-- what the evaluator wrote -/
 o:GO
abbrev Rho:=Nat->Option Loc
def Rho.le (ρ ρ':Rho):Prop:=∀h l,ρ h=some l->ρ' h=some l
theorem Rho.le_refl (ρ:Rho):ρ.le ρ:=fun _ _ h=>h
theorem Rho.le_trans {a b c:Rho} (h:a.le b) (k:b.le c):a.le c:=fun _ _ x=>k _ _ (h _ _ x)
inductive Rl (ρ:Rho):GV->Value->Prop
 |int (k n):Rl ρ (.int k n) (.int k n)
 |bool (b):Rl ρ (.bool b) (.bool b)
 |str (s:ByteArray):Rl ρ (.str (encB (bytesOfV s)) (bytesOfV s).length) (.string s)
 |ptr {h l} (off) (hl:ρ h=some l):Rl ρ (.ptr h off) (.pointer (some ⟨l.b,l.off+off,none⟩))
 |pnil:Rl ρ .pnil (.pointer none)
 |sl {h l off len sz cap} {A:Addr} (hl:ρ h=some l) (hc:len<=cap) (ha:cap=0∨(A=⟨l.b,l.off+off,none⟩∧l.off+off+cap*sz<=l.size)):Rl ρ (.sl h off len sz) (.slice (some A) len cap)
 |snil:Rl ρ .snil (.slice none 0 0)
 |map {h l} (hl:ρ h=some l):Rl ρ (.map h) (.map (some l.b))
 | fn {us vs : List GV} {us' vs' : List Value} (f) (h1 : us.length = us'.length) (h2 : ∀ (i : Nat) g v, us[i]? = some g → us'[i]? = some v → Rl ρ g v) (h3 : vs.length = vs'.length) (h4 : ∀ (i : Nat) g v, vs[i]? = some g → vs'[i]? = some v → Rl ρ g v) :
   Rl ρ (.fn f us vs) (.func (.func f) us'.toArray vs'.toArray)
 |fnil:Rl ρ .fnil .nilFunc
 |inil:Rl ρ .inil .nilIface
 |agg {cs:List GV} {vs:List Value} (h1:cs.length=vs.length) (h2:∀(i:Nat) g v,cs[i]? = some g->vs[i]? = some v->Rl ρ g v) (h3:∀v∈vs,one v=true):Rl ρ (.agg cs) (.agg vs.toArray)
 |tup {cs:List GV} {vs:List Value} (h1:cs.length=vs.length) (h2:∀(i:Nat) g v,cs[i]? = some g->vs[i]? = some v->Rl ρ g v):Rl ρ (.tup cs) (.tuple vs.toArray)
 |un:Rl ρ .un undef
 |bad (v):Rl ρ .bad v
theorem Rl.le {ρ ρ':Rho} (hl:ρ.le ρ') {g:GV} {v:Value} (h:Rl ρ g v):Rl ρ' g v:=by
 induction h with
 |int k n=>exact .int k n
 |bool b=>exact .bool b
 |str s=>exact .str s
 |ptr off h=>exact .ptr off (hl _ _ h)
 |pnil=>exact .pnil
 |sl h hc ha=>exact .sl (hl _ _ h) hc ha
 |snil=>exact .snil
 |map h=>exact .map (hl _ _ h)
 |fn f h1 h2 h3 h4 ih2 ih4=>exact .fn f h1 ih2 h3 ih4
 |fnil=>exact .fnil
 |inil=>exact .inil
 |agg h1 h2 h3 ih=>exact .agg h1 ih h3
 |tup h1 h2 ih=>exact .tup h1 ih
 |un=>exact .un
 |bad v=>exact .bad v
structure RlL (ρ:Rho) (gs:List GV) (vs:List Value):Prop where
 len:gs.length=vs.length
 at':∀(i:Nat) g v,gs[i]? = some g->vs[i]? = some v->Rl ρ g v
theorem RlL.nil {ρ:Rho}:RlL ρ [] []:=⟨rfl,fun i g v h=>by simp at h⟩
theorem RlL.cons {ρ:Rho} {g:GV} {v:Value} {gs:List GV} {vs:List Value} (h:Rl ρ g v) (r:RlL ρ gs vs):RlL ρ (g::gs) (v::vs):=⟨by simp[r.len],fun i a b ha hb=>by
 cases i with
 |zero=>simp at ha hb;subst ha hb;exact h
 |succ i=>simp at ha hb;exact r.at' i a b ha hb⟩
theorem RlL.of_cons {ρ:Rho} {g:GV} {gs:List GV} {vs:List Value} (h:RlL ρ (g::gs) vs):∃v vs',vs=v::vs'∧Rl ρ g v∧RlL ρ gs vs':=by
 cases vs with
 |nil=>have:=h.len;simp at this
 |cons v vs=>exact⟨v,vs,rfl,h.at' 0 _ _ rfl rfl,by have:=h.len;simpa using this,fun i a b ha hb=>h.at' (i+1) a b (by simpa using ha) (by simpa using hb)⟩
theorem RlL.of_nil {ρ:Rho} {vs:List Value} (h:RlL ρ [] vs):vs=[]:=List.eq_nil_of_length_eq_zero h.len.symm
theorem RlL.le {ρ ρ':Rho} (hl:ρ.le ρ') {gs:List GV} {vs:List Value} (h:RlL ρ gs vs):RlL ρ' gs vs:=⟨h.len,fun i g v h1 h2=>(h.at' i g v h1 h2).le hl⟩
theorem RlL.append {ρ:Rho} {gs gs':List GV} {vs vs':List Value} (h:RlL ρ gs vs) (k:RlL ρ gs' vs'):RlL ρ (gs++gs') (vs++vs'):=by
 induction gs generalizing vs with
 |nil=>rw[h.of_nil];exact k
 |cons g gs ih=>obtain⟨v,vs,rfl,h1,h2⟩:=h.of_cons;exact .cons h1 (ih h2)
theorem RlL.get {ρ:Rho} {gs:List GV} {vs:List Value} (h:RlL ρ gs vs) {i:Nat} {g:GV} (hg:gs[i]? = some g):∃v,vs[i]? = some v∧Rl ρ g v:=by
 have hi:=getElem?_lt hg
 have:i<vs.length:=h.len▸hi
 exact⟨vs[i],List.getElem?_eq_getElem this,h.at' i g _ hg (List.getElem?_eq_getElem this)⟩
theorem RlL.sub {ρ:Rho} {gs:List GV} {vs:List Value} (h:RlL ρ gs vs) (o n:Nat):RlL ρ ((gs.drop o).take n) ((vs.drop o).take n):=
 ⟨by simp[h.len],fun i g v h1 h2=>by
  rw[List.getElem?_take]at h1 h2
  split at h1
  ·rename_i hi
   rw[if_pos hi]at h2
   rw[List.getElem?_drop]at h1 h2
   exact h.at' _ g v h1 h2
  ·cases h1⟩

section
variable {ρ:Rho} {V:Value}
theorem Rl.int_inv {k:IntKind} {n:Int} (h:Rl ρ (.int k n) V):V = .int k n:=by cases h;rfl
theorem Rl.bool_inv {b:Bool} (h:Rl ρ (.bool b) V):V = .bool b:=by cases h;rfl
theorem Rl.str_inv {n l:Nat} (h:Rl ρ (.str n l) V):∃s,V = .string s∧n=encB (bytesOfV s)∧l=(bytesOfV s).length:=by cases h;exact⟨_,rfl,rfl,rfl⟩
theorem Rl.ptr_inv {h o:Nat} (x:Rl ρ (.ptr h o) V):∃l,ρ h=some l∧V = .pointer (some ⟨l.b,l.off+o,none⟩):=by cases x with|ptr o hl=>exact⟨_,hl,rfl⟩
theorem Rl.sl_inv {h o n sz:Nat} (x:Rl ρ (.sl h o n sz) V):∃l cap A,ρ h=some l∧V = .slice (some A) n cap∧n<=cap∧(cap=0∨(A=⟨l.b,l.off+o,none⟩∧l.off+o+cap*sz<=l.size)):=by
 cases x with|sl hl hc ha=>exact⟨_,_,_,hl,rfl,hc,ha⟩
theorem Rl.snil_inv (h:Rl ρ .snil V):V = .slice none 0 0:=by cases h;rfl
theorem Rl.map_inv {h:Nat} (x:Rl ρ (.map h) V):∃l,ρ h=some l∧V = .map (some l.b):=by cases x with|map hl=>exact⟨_,hl,rfl⟩
theorem Rl.fn_inv {f:Nat} {us vs:List GV} (x:Rl ρ (.fn f us vs) V):∃us' vs',V = .func (.func f) us'.toArray vs'.toArray∧RlL ρ us us'∧RlL ρ vs vs':=by
 cases x with|fn f h1 h2 h3 h4=>exact⟨_,_,rfl,⟨h1,h2⟩,⟨h3,h4⟩⟩
theorem Rl.agg_inv {cs:List GV} (x:Rl ρ (.agg cs) V):∃vs,V = .agg vs.toArray∧RlL ρ cs vs∧∀v∈vs,one v=true:=by
 cases x with|agg h1 h2 h3=>exact⟨_,rfl,⟨h1,h2⟩,h3⟩
theorem Rl.tup_inv {cs:List GV} (x:Rl ρ (.tup cs) V):∃vs,V = .tuple vs.toArray∧RlL ρ cs vs:=by
 cases x with|tup h1 h2=>exact⟨_,rfl,⟨h1,h2⟩⟩
theorem Rl.un_inv (x:Rl ρ .un V):V=undef:=by cases x;rfl
theorem Rl.fn' {f:Nat} {us vs:List GV} {us' vs':List Value} (h1:RlL ρ us us') (h2:RlL ρ vs vs'):Rl ρ (.fn f us vs) (.func (.func f) us'.toArray vs'.toArray):= .fn f h1.len h1.at' h2.len h2.at'
theorem Rl.agg' {cs:List GV} {vs:List Value} (h:RlL ρ cs vs) (h3:∀v∈vs,one v=true):Rl ρ (.agg cs) (.agg vs.toArray):= .agg h.len h.at' h3
theorem Rl.tup' {cs:List GV} {vs:List Value} (h:RlL ρ cs vs):Rl ρ (.tup cs) (.tuple vs.toArray):= .tup h.len h.at'
theorem Rl.cells {g:GV} {cs:List GV} (h:Rl ρ g V) (hc:g.cells=some cs):∃vs,V.cells=vs.toArray∧RlL ρ cs vs∧∀v∈vs,one v=true:=by
 have hone:∀g V,Rl ρ g V->one V=true->∃vs,#[V]=vs.toArray∧RlL ρ [g] vs∧∀v∈vs,one v=true:=fun g V h h1=>⟨[V],rfl,.cons h .nil,fun v hv=>by simp at hv;subst hv;exact h1⟩
 have h0:=h
 cases h with
 |agg h1 h2 h3=>cases hc;exact⟨_,rfl,⟨h1,h2⟩,h3⟩
 |tup h1 h2=>cases hc
 |un=>cases hc
 |bad v=>cases hc
 |_=>cases hc;exact hone _ _ h0 rfl
end

theorem ofV1_ok {ρ:Rho} {v:Value} {g:GV} (h:ofV1 v=some g):Rl ρ g v∧one v=true:=by
 unfold ofV1 at h
 split at h
 ·cases h;exact⟨.int _ _,rfl⟩
 ·cases h;exact⟨.bool _,rfl⟩
 ·cases h;exact⟨.snil,rfl⟩
 ·cases h;exact⟨.pnil,rfl⟩
 ·cases h;exact⟨.fnil,rfl⟩
 ·cases h;exact⟨.inil,rfl⟩
 ·simp only[sn_eq]at h;cases h;exact⟨.str _,rfl⟩
 ·cases h
theorem ofVs_ok {ρ:Rho}:∀{vs:List Value} {gs:List GV},ofVs vs=some gs->RlL ρ gs vs∧∀v∈vs,one v=true
 | [],gs,h=>by cases h;exact⟨.nil,fun v h=>by simp at h⟩
 | v :: vs, gs, h => by
  obtain⟨x,h1,h2⟩:=ob_some.1 (show ob (ofV1 v) (fun x=>ob (ofVs vs) fun xs=>some (x::xs))=some gs from h)
  obtain⟨xs,h3,h4⟩:=ob_some.1 h2
  cases h4
  obtain⟨a,b⟩:=ofVs_ok h3
  obtain⟨c,d⟩:=ofV1_ok (ρ:=ρ) h1
  exact⟨.cons c a,fun u hu=>by
   rcases List.mem_cons.1 hu with rfl|hu
   ·exact d
   ·exact b u hu⟩
theorem ofV_ok {ρ:Rho} {v:Value} {g:GV} (h:ofV v=some g):Rl ρ g v:=by
 unfold ofV at h
 split at h
 ·obtain⟨xs,h1,h2⟩:=ob_some.1 h
  cases h2
  obtain⟨a,b⟩:=ofVs_ok (ρ:=ρ) h1
  have:=Rl.agg' a b
  simpa using this
 ·exact(ofV1_ok h).1
theorem semV_ok {ρ:Rho} {s:Sem Value} {g:GV} (h:semV s=some g):∃v,Rl ρ g v∧s = .pure v:=by
 unfold semV at h
 split at h
 ·exact⟨_,(ofV1_ok h).1,rfl⟩
 ·cases h

structure FrOk (ρ:Rho) (n:Nat) (σ:GF) (a:Act):Prop where
 defers:a.defers=[]
 size:a.tmps.size=n
 slot:∀t g,glk σ t=some g->Rl ρ g (a.eval (.tmp t))
theorem FrOk.le {ρ ρ':Rho} (hl:ρ.le ρ') {n:Nat} {σ:GF} {a:Act} (h:FrOk ρ n σ a):FrOk ρ' n σ a:=⟨h.defers,h.size,fun t g hg=>(h.slot t g hg).le hl⟩
theorem FrOk.put {ρ:Rho} {n:Nat} {σ:GF} {a:Act} (h:FrOk ρ n σ a) {d:Nat} (hd:d<n) {g:GV} {v:Value} (hv:Rl ρ g v):FrOk ρ n ((d,g)::σ) (a.put (some d) v):=
 ⟨h.defers,by simp[Act.put,h.size],fun t u ht=>by
  rw[glk_cons]at ht
  by_cases e:t=d
  ·subst e;rw[if_pos rfl]at ht;cases ht
   have:(a.put (some t) v).eval (.tmp t)=v:=by simp[Act.put,Act.eval,h.size,hd]
   rw[this];exact hv
  ·rw[if_neg e]at ht
   have:(a.put (some d) v).eval (.tmp t)=a.eval (.tmp t):=by
    simp only[Act.put,Act.eval,Array.getD_eq_getD_getElem?]
    rw[Array.getElem?_setIfInBounds_ne (Ne.symm e)]
   rw[this];exact h.slot t u ht⟩
section
variable {ρ:Rho} {n:Nat} {σ:GF} {a:Act}
theorem gev_ok (F:FrOk ρ n σ a) {x:Operand} {g:GV} (h:gev σ x=some g):Rl ρ g (a.eval x):=by
 cases x with
 |tmp t=>exact F.slot t g h
 |const v=>exact ofV_ok h
 |global g=>cases h
 |func f=>cases h;exact Rl.fn' .nil .nil
theorem gevs_ok (F:FrOk ρ n σ a):∀{xs:List Operand} {gs:List GV},gevs σ xs=some gs->RlL ρ gs (xs.map a.eval)
 | [],gs,h=>by cases h;exact .nil
 |x::xs,gs,h=>by
  obtain⟨v,h1,h2⟩:=ob_some.1 (show ob (gev σ x) (fun v=>ob (gevs σ xs) fun vs=>some (v::vs))=some gs from h)
  obtain⟨vs,h3,h4⟩:=ob_some.1 h2
  cases h4
  exact .cons (gev_ok F h1) (gevs_ok F h3)
def RlP (ρ:Rho) (gs:List (Nat×GV)) (vs:List (Nat×Value)):Prop:=gs.map (·.1)=vs.map (·.1)∧RlL ρ (gs.map (·.2)) (vs.map (·.2))
theorem gparts_ok (F:FrOk ρ n σ a):∀{xs:List (Nat×Operand)} {gs:List (Nat×GV)},gparts σ xs=some gs->RlP ρ gs (xs.map fun p=>(p.1,a.eval p.2))
 | [],gs,h=>by cases h;exact⟨rfl,.nil⟩
 |x::xs,gs,h=>by
  obtain⟨v,h1,h2⟩:=ob_some.1 (show ob (gev σ x.2) (fun v=>ob (gparts σ xs) fun vs=>some ((x.1,v)::vs))=some gs from h)
  obtain⟨vs,h3,h4⟩:=ob_some.1 h2
  cases h4
  obtain⟨e1,e2⟩:=gparts_ok F h3
  exact⟨by simp only[List.map_cons,e1],.cons (gev_ok F h1) e2⟩
end

def Comp (P:Program) (ρ:Rho) (s:Sem Value) (g:GV):Prop:=∃v,Rl ρ g v∧∀w,s.run P w = .ok v w
structure TabOk (P:Program) (tb:TB):Prop where
 tab:∀{T d},tb T=some d->TyOk P T d
section
variable {P:Program} {tb:TB} {ρ:Rho} {V U W:Value} {v u t g:GV}
theorem wrapIn {k:IntKind} {z:Int} {g:GV} (h:gw k z=some g):g = .int k (k.wrap z):=by
  unfold gw at h
  rw[fi_eq]at h
  cases hk:isI64 k with
  | true =>
    rw[hk]at h
    obtain⟨h1,h2⟩:=bif_some.1 h
    cases h2
    have e:k = .i64:=by cases k<;>first|rfl|cases hk
    subst e
    have : -9223372036854775808<=z∧z<=9223372036854775807:=by
      cases z with
      | ofNat a => have : a < 9223372036854775808 := by simpa [i64in, Nat.blt_eq] using h1
                   simp only[Int.ofNat_eq_natCast];omega
      | negSucc a => have : a < 9223372036854775808 := by simpa [i64in, Nat.blt_eq] using h1
                     omega
    rw[wrap64_in this.1 this.2]
  | false =>
    rw[hk]at h
    simp only[cond_false,fi_eq]at h
    cases h;rfl
theorem binI_ok {op:BinOp} {k:IntKind} {a b:Int} {T:TypeId} (hs:isShift op=false) (h:binI op k a b=some g):∃v,Rl ρ g v∧binOp op T (.int k a) (.int k b) = .pure v:=by
 have hb:∀{p:Prop} [Decidable p] {c:Bool},c=decide p->fb c=some g->Rl ρ g (.bool (decide p)):=fun e h=>by rw[fb_eq]at h;cases h;rw[e];exact .bool _
 have hsem:∀op',isShift op'=false->semV (binOp op' 0 (.int k a) (.int k b))=some g->∃v,Rl ρ g v∧binOp op' T (.int k a) (.int k b) = .pure v:=fun op' hs' h=>by
  obtain⟨v,h1,h2⟩:=semV_ok (ρ:=ρ) h
  refine⟨v,h1,?_⟩
  rw[<-h2];cases op'<;>first|rfl|cases hs'
 cases op with
 |add=>exact⟨_,by rw[wrapIn h];exact .int _ _,by simp[binOp,Op.intArith];rfl⟩
 |sub=>exact⟨_,by rw[wrapIn h];exact .int _ _,by simp[binOp,Op.intArith];rfl⟩
 |eql=>exact⟨.bool (decide (a=b)),hb (eqI_eq a b) h,by simp[binOp,Op.intCmp];rfl⟩
 |neq=>exact⟨.bool (decide (¬a=b)),hb (by rw[eqI_eq];simp) h,by simp[binOp,Op.intCmp];rfl⟩
 |lss=>exact⟨.bool (decide (a<b)),hb (ltI_eq a b) h,by simp[binOp,Op.intCmp];rfl⟩
 |leq=>exact⟨.bool (decide (a<=b)),hb (by rw[ltI_eq,<-decide_not];exact decide_eq_decide.2 (by omega)) h,by simp[binOp,Op.intCmp];rfl⟩
 |gtr=>exact⟨.bool (decide (b<a)),hb (ltI_eq b a) h,by simp[binOp,Op.intCmp];rfl⟩
 |geq=>exact⟨.bool (decide (b<=a)),hb (by rw[ltI_eq,<-decide_not];exact decide_eq_decide.2 (by omega)) h,by simp[binOp,Op.intCmp];rfl⟩
 |shl=>cases hs
 |shr=>cases hs
 |mul=>exact hsem .mul hs h
 |quo=>exact hsem .quo hs h
 |rem=>exact hsem .rem hs h
 |and=>exact hsem .and hs h
 |or=>exact hsem .or hs h
 |xor=>exact hsem .xor hs h
 |andNot=>exact hsem .andNot hs h
end
end Go.Gx
end
section
namespace Go.Gx
open Go Go.Sx Go.RowKit

theorem encB_cons (b:UInt8) (l:List UInt8):encB (b::l)=b.toNat+256*encB l:=rfl
theorem encB_inj:∀{x y:List UInt8},x.length=y.length->encB x=encB y->x=y
 | [],[],_,_=>rfl
 | [],_::_,h,_=>by simp at h
 |_::_,[],h,_=>by simp at h
 |a::x,b::y,h,e=>by
  rw[encB_cons,encB_cons]at e
  have ha:=a.toNat_lt
  have hb:=b.toNat_lt
  have e1:a.toNat=b.toNat:=by omega
  have e2:encB x=encB y:=by omega
  rw[UInt8.toNat_inj.1 e1,encB_inj (by simpa using h) e2]
theorem encB_drop:∀(x:List UInt8) (n:Nat),encB x / 256^n=encB (x.drop n)
 |x,0=>by simp
 | [],n+1=>by simp[encB]
 |b::x,n+1=>by
  rw[encB_cons,List.drop_succ_cons,<-encB_drop x n,Nat.pow_succ,Nat.mul_comm (256^n) 256,<-Nat.div_div_eq_div_mul]
  have:=b.toNat_lt
  congr 1
  omega
theorem encB_take:∀(x:List UInt8) (n:Nat),encB x%256^n=encB (x.take n)
 |x,0=>by simp[encB,Nat.mod_one]
 | [],n+1=>by simp[encB]
 |b::x,n+1=>by
  rw[encB_cons,List.take_succ_cons,encB_cons,<-encB_take x n,Nat.pow_succ,Nat.mul_comm (256^n) 256,Nat.mod_mul]
  have hb:=b.toNat_lt
  have e1:(b.toNat+256*encB x)%256=b.toNat:=by omega
  have e2:(b.toNat+256*encB x) / 256=encB x:=by omega
  rw[e1,e2]
theorem shr8 (n l:Nat):Nat.shiftRight n (Nat.mul 8 l)=n / 256^l:=by
 show n >>> (8*l)=_
 rw[Nat.shiftRight_eq_div_pow,Nat.pow_mul]
theorem pow8 (k:Nat):Nat.pow 2 (Nat.mul 8 k)=256^k:=by
 show 2^(8*k)=_
 rw[Nat.pow_mul]
theorem encB_sub (x:List UInt8) (l k:Nat):Nat.mod (Nat.shiftRight (encB x) (Nat.mul 8 l)) (Nat.pow 2 (Nat.mul 8 k))=encB ((x.drop l).take k):=by
 rw[shr8,pow8]
 show encB x / 256^l%256^k=_
 rw[encB_drop,encB_take]
theorem encB_at (x:List UInt8) (i:Nat) (h:i<x.length):Nat.mod (Nat.shiftRight (encB x) (Nat.mul 8 i)) 256=(x[i]).toNat:=by
 rw[shr8]
 show encB x / 256^i%256=_
 rw[encB_drop,List.drop_eq_getElem_cons h,encB_cons]
 have:=(x[i]).toNat_lt
 omega
theorem bytes_get (s:ByteArray) (i:Nat):s[i]? = (bytesOfV s)[i]?:=by
 unfold bytesOfV
 by_cases h:i<s.size
 ·rw[getElem?_pos s i h,Array.getElem?_toList,Array.getElem?_eq_getElem (by simpa using h)];rfl
 ·rw[getElem?_neg s i h]
  rw[List.getElem?_eq_none (by have:=Lib.size_eq s;omega)]
section
variable {P:Program} {tb:TB} {ρ:Rho} {V U W:Value} {v u t g:GV}
theorem vBin_ok (hG:TabOk P tb) {op:BinOp} {T:TypeId} (x y:Operand) (hv:Rl ρ v V) (hu:Rl ρ u U) (h:vBin tb op T v u=some g):Comp P ρ (do eqGuard op T x y V U;binOp op T V U) g:=by
 unfold vBin at h
 cases hi:v.asI with
 | some a =>
  rw[hi]at h
  obtain⟨b,hb,h⟩:=ob_some.1 h
  rw[asI_eq hi]at hv
  rw[asI_eq hb]at hu
  rw[hv.int_inv,hu.int_inv]
  have hg:∀w,(eqGuard op T x y (.int a.1 a.2) (.int b.1 b.2)).run P w = .ok () w:=fun w=>guard_int w
  cases hs:isShift op with
  |true=>
   rw[hs]at h
   obtain⟨z,h1,h2⟩:=semV_ok (ρ:=ρ) h
   have e:binOp op T (.int a.1 a.2) (.int b.1 b.2)=binOp op 0 (.int a.1 a.2) (.int b.1 b.2):=by cases op<;>first|rfl|cases hs
   exact⟨z,h1,fun w=>by rw[e,h2];simp[hg w]⟩
  |false=>
   rw[hs]at h
   simp only[cond_false]at h
   obtain⟨hk,h⟩:=bif_some.1 h
   have hk:=eqK_eq hk
   obtain⟨z,h1,h2⟩:=binI_ok (ρ:=ρ) (T:=T) hs h
   exact⟨z,h1,fun w=>by rw[<-hk,h2];have:=hg w;rw[<-hk]at this;simp[this]⟩
 | none =>
  rw[hi]at h
  simp only at h
  cases hstr:v.asStr with
  | some a =>
   rw[hstr]at h
   obtain⟨b,hb,h⟩:=ob_some.1 h
   rw[asStr_eq hstr]at hv
   rw[asStr_eq hb]at hu
   obtain⟨s,rfl,e1,e2⟩:=hv.str_inv
   obtain⟨r,rfl,e3,e4⟩:=hu.str_inv
   have heq:eqS a b=(s.toList==r.toList):=by
    rw[Lib.toList_data,Lib.toList_data]
    unfold eqS
    rw[e1,e2,e3,e4]
    by_cases hl:(bytesOfV s).length=(bytesOfV r).length
    ·have hb:Nat.beq (bytesOfV r).length (bytesOfV r).length=true:=by simp
     rw[hl,hb,cond_true]
     by_cases he:encB (bytesOfV s)=encB (bytesOfV r)
     ·have:=encB_inj hl he
      unfold bytesOfV at this
      rw[he,this];simp
     ·rw[beq_ne he]
      symm
      rw[beq_eq_false_iff_ne]
      intro hh;exact he (by unfold bytesOfV;rw[hh])
    ·rw[beq_ne hl,cond_false]
     symm
     rw[beq_eq_false_iff_ne]
     intro hh;exact hl (by unfold bytesOfV;rw[hh])
   have hgd:∀w,(eqGuard op T x y (.string s) (.string r)).run P w = .ok () w:=fun w=>by unfold eqGuard;cases op<;>simp
   have key:∀c:Bool,fb c=some g->Rl ρ g (.bool c):=fun c hc=>by rw[fb_eq]at hc;cases hc;exact .bool _
   cases op with
   |eql=>exact⟨_,key _ h,fun w=>by rw[heq];have:=hgd w;simp[this,binOp,Op.stringOp]⟩
   |neq=>exact⟨_,key _ h,fun w=>by rw[heq];have:=hgd w;simp[this,binOp,Op.stringOp]⟩
   |_=>cases h
  | none =>
   rw[hstr]at h
   simp only at h
   cases ha:v.asB with
   | none =>
    rw[ha]at h
    simp only at h
    obtain⟨h1,h'⟩:=bif_some.1 h
    clear h
    obtain⟨h2,h⟩:=bif_some.1 h'
    clear h'
    obtain⟨t,ht,h'⟩:=ob_some.1 h
    clear h
    obtain⟨hd,hfin⟩:=bif_some.1 h'
    clear h'
    have e1:v = .inil:=by cases v<;>first|rfl|cases h1
    have e2:u = .inil:=by cases u<;>first|rfl|cases h2
    subst e1;subst e2
    cases hv;cases hu
    obtain⟨ms,hms,h0⟩:∃ms,t.desc = .interface ms∧ms.size=0:=by
     cases hq:t.desc<;>rw[hq]at hd<;>first|(exact⟨_,rfl,Nat.eq_of_beq_eq_true hd⟩)|cases hd
    have hun:∀w:World,_:=fun w=>(hG.tab ht).run_und w
    have h0':ms.isEmpty=true:=by simp[Array.isEmpty,h0]
    have hgi:∀w,(Op.eqGuardIn Op.maxDepth T .nilIface .nilIface).run P w = .ok false w:=fun w=>by
     have key:∀m:Nat,(Op.eqGuardIn (m+1) T .nilIface .nilIface).run P w = .ok false w:=by
      intro m
      unfold Op.eqGuardIn
      simp[hun w,hms,h0']
     exact key 9999
    have hei:∀w,(Op.equal T .nilIface .nilIface).run P w = .ok true w:=fun w=>by
     have key:∀m:Nat,(Op.equalIn (m+1) T .nilIface .nilIface).run P w = .ok true w:=by
      intro m
      unfold Op.equalIn
      simp[hun w,hms]
     exact key 9999
    have hgd:∀w,(eqGuard op T x y .nilIface .nilIface).run P w = .ok () w:=fun w=>by
     unfold eqGuard
     cases op<;>simp[hgi w]
     all_goals (split<;>simp)
    cases op with
    |eql=>cases hfin;exact⟨.bool true,.bool _,fun w=>by have h1:=hgd w;have h2:=hei w;simp[h1,binOp,h2]⟩
    |neq=>cases hfin;exact⟨.bool false,.bool _,fun w=>by have h1:=hgd w;have h2:=hei w;simp[h1,binOp,h2]⟩
    |_=>cases hfin
   | some a =>
    rw[ha]at h
    simp only at h
    obtain⟨b,hb,h⟩:=ob_some.1 h
    obtain⟨t,ht,h⟩:=ob_some.1 h
    obtain⟨hd,h⟩:=bif_some.1 h
    rw[asB_eq ha]at hv
    rw[asB_eq hb]at hu
    rw[hv.bool_inv,hu.bool_inv]
    have hgd:∀w,(eqGuard op T x y (.bool a) (.bool b)).run P w = .ok () w:=fun w=>by unfold eqGuard;cases op<;>simp
    have heq:∀w,(Op.equal T (.bool a) (.bool b)).run P w = .ok (a==b) w:=fun w=>by
     have hu:=(hG.tab ht).run_und w
     rw[tdB_eq hd]at hu
     have key:∀m:Nat,(Op.equalIn (m+1) T (.bool a) (.bool b)).run P w = .ok (a==b) w:=by
      intro m
      unfold Op.equalIn
      simp[hu]
     exact key 9999
    cases op with
    |eql=>exact⟨.bool (a==b),by have h':fb (eqB a b)=some g:=h;rw[fb_eq,eqB_eq]at h';cases h';exact .bool _,fun w=>by have h1:=hgd w;have h2:=heq w;simp[h1,binOp,h2]⟩
    |neq=>exact⟨.bool (!(a==b)),by have h':fb (!eqB a b)=some g:=h;rw[fb_eq,eqB_eq]at h';cases h';exact .bool _,fun w=>by have h1:=hgd w;have h2:=heq w;simp[h1,binOp,h2]⟩
    |_=>cases h
theorem vUn_ok {op:UnOp} (hv:Rl ρ v V) (h:vUn op v=some g):Comp P ρ (Op.unary op V) g:=by
 cases op with
 |neg=>
  obtain⟨a,ha,h⟩:=ob_some.1 (show ob v.asI _=some g from h)
  rw[asI_eq ha]at hv
  rw[hv.int_inv,wrapIn h]
  exact⟨_,.int _ _,fun w=>by simp[Op.unary,Op.intArith]⟩
 |not=>
  obtain⟨a,ha,h⟩:=ob_some.1 (show ob v.asB _=some g from h)
  rw[asB_eq ha]at hv
  rw[hv.bool_inv]
  rw[fb_eq]at h;cases h
  exact⟨_,.bool _,fun w=>by simp[Op.unary]⟩
 |_=>cases h
theorem vConv_ok (hG:TabOk P tb) {S D:TypeId} (hv:Rl ρ v V) (h:vConv tb S D v=some g):Comp P ρ (convert S D V) g:=by
 obtain⟨a,ha,h⟩:=ob_some.1 (show ob v.asI _=some g from h)
 obtain⟨s,hs,h⟩:=ob_some.1 h
 obtain⟨k',hk',h⟩:=ob_some.1 h
 obtain⟨t,ht,h⟩:=ob_some.1 h
 obtain⟨k,hk,h⟩:=ob_some.1 h
 rw[fi_eq]at h;cases h
 rw[asI_eq ha]at hv
 rw[hv.int_inv]
 refine⟨_,.int _ _,fun w=> ?_⟩
 have h1:=(hG.tab hs).run_und w
 have h2:=(hG.tab ht).run_und w
 rw[tdI_eq hk']at h1
 rw[tdI_eq hk]at h2
 simp[convert,h1,h2,Conv.intToInt]
theorem nilck_ok (hv:Rl ρ v V) (h:v.nilck=some g):g=v∧∀(o:Oper) (x:Operand) (ev:Operand->Value),o.op = .nilCheck x->ev x=V->∀w,(execOp ev o).run P w = .ok (.value V) w:=by
 cases hv with
 |ptr off hl=>cases h;exact⟨rfl,fun o x ev ho hx w=>by simp[execOp,ho,hx]⟩
 |fn f h1 h2 h3 h4=>cases h;exact⟨rfl,fun o x ev ho hx w=>by simp[execOp,ho,hx]⟩
 |_=>cases h
theorem fieldsOf_ok (hG:TabOk P tb) {T:TypeId} {fs:List Field} (h:fieldsOf tb T=some fs):∃d,TyOk P T d∧d.desc = .struct fs.toArray:=by
 obtain⟨t,ht,h⟩:=ob_some.1 (show ob (tb T) _=some fs from h)
 obtain⟨a,ha,h⟩:=ob_some.1 h
 cases h
 exact⟨t,hG.tab ht,by rw[tdF_eq ha]⟩
theorem vField_ok (hG:TabOk P tb) {T:TypeId} {f:Nat} (hv:Rl ρ v V) (h:vField tb T f v=some g):Comp P ρ (Instr.fieldAt T V f) g:=by
 obtain⟨p,hp,h⟩:=ob_some.1 (show ob v.asP _=some g from h)
 obtain⟨fs,hfs,h⟩:=ob_some.1 h
 obtain⟨q,hq,h⟩:=ob_some.1 h
 obtain⟨tq,htq,h⟩:=ob_some.1 h
 obtain⟨h0,h⟩:=bif_some'.1 h
 rw[sn_eq]at h;cases h
 rw[asP_eq hp]at hv
 obtain⟨l,hl,rfl⟩:=hv.ptr_inv
 obtain⟨d,hd,he⟩:=fieldsOf_ok hG hfs
 rw[nth_eq]at hq
 refine⟨_,.ptr _ hl,fun w=> ?_⟩
 have h1:=hd.run_und w
 rw[he]at h1
 have hne:tq.size≠0:=fun e=>by rw[e]at h0;cases h0
 have e:l.off+(p.2+q.offset)=l.off+p.2+q.offset:=by omega
 show(Instr.fieldAt T (.pointer (some ⟨l.b,l.off+p.2,none⟩)) f).run P w = .ok (.pointer (some ⟨l.b,l.off+(p.2+q.offset),none⟩)) w
 rw[e]
 simp[Instr.fieldAt,h1,hq,Instr.sureAddr,fieldPlace,(hG.tab htq).run_size w,hne,add_none]
theorem ofCells_ok (hG:TabOk P tb) {T:TypeId} {t:Ty} {cs:List GV} {vs:List Value} {o:Nat} (hT:TyOk P T t) (hr:RlL ρ cs vs) (h1:∀v∈vs,one v=true) (h:ofCells t cs o=some g):Comp P ρ (part T vs.toArray o) g:=by
 unfold ofCells at h
 cases ha:aggD t.desc with
 |true=>
  rw[ha]at h
  obtain⟨r,hs,h⟩:=ob_some.1 h
  cases h
  obtain⟨hb,rfl⟩:=slc_eq hs
  refine⟨_,Rl.agg' (hr.sub o t.size) (fun v hv=>h1 v (List.mem_of_mem_drop (List.mem_of_mem_take hv))),fun w=> ?_⟩
  have e1:=hT.run_agg w
  have e2:=hT.run_size w
  rw[ha]at e1
  simp[part,e1,e2]
 |false=>
  rw[ha]at h
  rw[cond_false,nth_eq]at h
  obtain⟨x,hx,hr⟩:=hr.get h
  refine⟨x,hr,fun w=> ?_⟩
  have e1:=hT.run_agg w
  rw[ha]at e1
  simp[part,e1,hx]
theorem vPart_ok (hG:TabOk P tb) {T:TypeId} {f:Nat} (hv:Rl ρ v V) (h:vPart tb T f v=some g):Comp P ρ (Instr.field T V f) g:=by
 obtain⟨cs,hc,h⟩:=ob_some.1 (show ob v.asA _=some g from h)
 obtain⟨fs,hfs,h⟩:=ob_some.1 h
 obtain⟨q,hq,h⟩:=ob_some.1 h
 obtain⟨tq,htq,h⟩:=ob_some.1 h
 rw[asA_eq hc]at hv
 obtain⟨vs,rfl,hr,h1⟩:=hv.agg_inv
 obtain⟨d,hd,he⟩:=fieldsOf_ok hG hfs
 rw[nth_eq]at hq
 obtain⟨x,hx,hrun⟩:=ofCells_ok (T:=q.type) hG (hG.tab htq) hr h1 h
 refine⟨x,hx,fun w=> ?_⟩
 have h2:=hd.run_und w
 rw[he]at h2
 have:=hrun w
 simp[Instr.field,h2,hq,asAgg,this]
theorem elemOf_ok (hG:TabOk P tb) {T:TypeId} {e:TypeId×Ty} (h:elemOf tb T=some e):(∃d,TyOk P T d∧d.desc = .slice e.1)∧TyOk P e.1 e.2∧tb e.1=some e.2:=by
 obtain⟨t,ht,h⟩:=ob_some.1 (show ob (tb T) _=some e from h)
 obtain⟨a,ha,h⟩:=ob_some.1 h
 obtain⟨te,hte,h⟩:=ob_some.1 h
 cases h
 exact⟨⟨t,hG.tab ht,tdS_eq ha⟩,hG.tab hte,hte⟩
theorem vIndex_ok (hG:TabOk P tb) {T:TypeId} (hv:Rl ρ v V) (hu:Rl ρ u U) (h:vIndex tb T v u=some g):Comp P ρ (Instr.indexAt T V U) g:=by
 obtain⟨n,hn,h⟩:=ob_some.1 (show ob u.asI _=some g from h)
 obtain⟨i,hi,h⟩:=ob_some.1 h
 rw[asI_eq hn]at hu
 rw[hu.int_inv,asN_eq hi]
 cases hp:v.asP with
 |some p=>
  rw[hp]at h
  rw[asP_eq hp]at hv
  obtain⟨l,hl,rfl⟩:=hv.ptr_inv
  obtain⟨t,ht,h⟩:=ob_some.1 (show ob (tb T) _=some g from h)
  obtain⟨e,he,h⟩:=ob_some.1 h
  obtain⟨te,hte,h⟩:=ob_some.1 h
  obtain⟨hlt,h⟩:=bif_some.1 h
  rw[sn_eq]at h;cases h
  refine⟨_,.ptr _ hl,fun w=> ?_⟩
  have h1:=(hG.tab ht).run_und w
  rw[tdA_eq he]at h1
  have hlt:i<e.1:=by simpa [Nat.blt_eq]using hlt
  have ee:l.off+(p.2+i*te.size)=l.off+p.2+i*te.size:=by omega
  show(Instr.indexAt T (.pointer (some ⟨l.b,l.off+p.2,none⟩)) (.int n.1 i)).run P w = .ok (.pointer (some ⟨l.b,l.off+(p.2+i*te.size),none⟩)) w
  rw[ee]
  simp[Instr.indexAt,asIntOf,h1,Instr.sureAddr,hlt,(hG.tab hte).run_size w,add_none]
 |none=>
  rw[hp]at h
  obtain⟨s,hs,h⟩:=ob_some.1 (show ob v.asS _=some g from h)
  rw[asS_eq hs]at hv
  obtain⟨l,cap,A,hl,rfl,hc,ha⟩:=hv.sl_inv
  obtain⟨te,hte,h⟩:=ob_some.1 (show ob (elemOf tb T) _=some g from h)
  obtain⟨hlt,h⟩:=bif_some.1 h
  rw[sn_eq]at h;cases h
  obtain⟨⟨d,hd,hde⟩,hE,_⟩:=elemOf_ok hG hte
  have hlt:i<s.2.2.1:=by simpa [Nat.blt_eq]using hlt
  rcases ha with ha|⟨rfl,_⟩
  ·omega
  refine⟨_,.ptr _ hl,fun w=> ?_⟩
  have h1:=hd.run_und w
  rw[hde]at h1
  have ee:l.off+(s.2.1+i*te.2.size)=l.off+s.2.1+i*te.2.size:=by omega
  show(Instr.indexAt T (.slice (some ⟨l.b,l.off+s.2.1,none⟩) s.2.2.1 cap) (.int n.1 i)).run P w = .ok (.pointer (some ⟨l.b,l.off+(s.2.1+i*te.2.size),none⟩)) w
  rw[ee]
  simp[Instr.indexAt,asIntOf,h1,hlt,hE.run_size w,add_none]
theorem vAt_ok (hG:TabOk P tb) {T:TypeId} (hv:Rl ρ v V) (hu:Rl ρ u U) (h:vAt tb T v u=some g):Comp P ρ (Instr.index T V U) g:=by
 obtain⟨s,hs,h⟩:=ob_some.1 (show ob v.asStr _=some g from h)
 obtain⟨n,hn,h⟩:=ob_some.1 h
 obtain⟨i,hi,h⟩:=ob_some.1 h
 obtain⟨t,ht,h⟩:=ob_some.1 h
 obtain⟨hd,h⟩:=bif_some.1 h
 obtain⟨hlt,h⟩:=bif_some.1 h
 rw[sn_eq]at h;cases h
 rw[asI_eq hn]at hu
 rw[hu.int_inv,asN_eq hi]
 rw[asStr_eq hs]at hv
 obtain⟨r,rfl,e1,e2⟩:=hv.str_inv
 have hlt:i<(bytesOfV r).length:=by rw[<-e2];simpa [Nat.blt_eq]using hlt
 rw[e1,encB_at _ _ hlt]
 refine⟨_,.int _ _,fun w=> ?_⟩
 have h1:=(hG.tab ht).run_und w
 rw[tdStr_eq hd]at h1
 have hb:=bytes_get r i
 rw[List.getElem?_eq_getElem hlt]at hb
 simp[Instr.index,asIntOf,h1,hb]
theorem vExt_ok {i:Nat} (hv:Rl ρ v V) (h:vExt i v=some g):Comp P ρ (Instr.extract V i) g:=by
 obtain⟨vs,hs,h⟩:=ob_some.1 (show ob v.asT _=some g from h)
 rw[asT_eq hs]at hv
 obtain⟨us,rfl,hr⟩:=hv.tup_inv
 rw[nth_eq]at h
 obtain⟨x,hx,hr⟩:=hr.get h
 exact⟨x,hr,fun w=>by simp[Instr.extract,hx]⟩
theorem vMax_ok {t1 t2 ty:TypeId} (hv:Rl ρ v V) (hu:Rl ρ u U) (h:vMax v u=some g):Comp P ρ (Builtin.max_ #[t1,t2] ty #[V,U]) g:=by
 obtain⟨a,ha,h⟩:=ob_some.1 (show ob v.asI _=some g from h)
 obtain⟨b,hb,h⟩:=ob_some.1 h
 obtain⟨hk,h⟩:=bif_some.1 h
 have hk:=eqK_eq hk
 have hv':=hv;have hu':=hu
 rw[asI_eq ha]at hv';rw[asI_eq hb]at hu'
 rw[ltI_eq]at h
 by_cases hlt:a.2<b.2
 ·rw[decide_eq_true hlt]at h;cases h
  refine⟨U,hu,fun w=> ?_⟩
  rw[hv'.int_inv,hu'.int_inv,<-hk]
  simp[Builtin.max_,Builtin.max2];omega
 ·rw[decide_eq_false hlt]at h;cases h
  refine⟨V,hv,fun w=> ?_⟩
  rw[hv'.int_inv,hu'.int_inv,<-hk]
  simp[Builtin.max_,Builtin.max2];omega
theorem vMin_ok {t1 t2 ty:TypeId} (hv:Rl ρ v V) (hu:Rl ρ u U) (h:vMin v u=some g):Comp P ρ (Builtin.min_ #[t1,t2] ty #[V,U]) g:=by
 obtain⟨a,ha,h⟩:=ob_some.1 (show ob v.asI _=some g from h)
 obtain⟨b,hb,h⟩:=ob_some.1 h
 obtain⟨hk,h⟩:=bif_some.1 h
 have hk:=eqK_eq hk
 have hv':=hv;have hu':=hu
 rw[asI_eq ha]at hv';rw[asI_eq hb]at hu'
 rw[ltI_eq]at h
 by_cases hlt:b.2<a.2
 ·rw[decide_eq_true hlt]at h;cases h
  refine⟨U,hu,fun w=> ?_⟩
  rw[hv'.int_inv,hu'.int_inv,<-hk]
  simp[Builtin.min_,Builtin.min2];omega
 ·rw[decide_eq_false hlt]at h;cases h
  refine⟨V,hv,fun w=> ?_⟩
  rw[hv'.int_inv,hu'.int_inv,<-hk]
  simp[Builtin.min_,Builtin.min2];omega
theorem vLen_ok (hG:TabOk P tb) {T ty:TypeId} (hv:Rl ρ v V) (h:vLen tb T v=some g):Comp P ρ (Builtin.len_ #[T] ty #[V]) g:=by
 obtain⟨t,ht,h⟩:=ob_some.1 (show ob (tb T) _=some g from h)
 cases hs:v.asStr with
 |some s=>
  rw[hs]at h
  obtain⟨hd,h⟩:=bif_some.1 h
  cases h
  rw[asStr_eq hs]at hv
  obtain⟨r,rfl,e1,e2⟩:=hv.str_inv
  refine⟨_,.int _ _,fun w=> ?_⟩
  have h1:=(hG.tab ht).run_und w
  rw[tdStr_eq hd]at h1
  rw[e2]
  have:r.size=(bytesOfV r).length:=Lib.size_eq r
  simp[Builtin.len_,h1,goInt,this]
 | none =>
  rw[hs]at h
  obtain⟨E,hE,h⟩:=ob_some.1 (show ob (tdS t.desc) _=some g from h)
  obtain⟨n,hn,h⟩:=ob_some.1 h
  cases h
  unfold glen at hn
  cases hz:v.isSnil with
  |true=>
   rw[hz]at hn;cases hn
   rw[isSnil_eq hz]at hv
   rw[hv.snil_inv]
   exact⟨_,.int _ _,fun w=>run_len w (hG.tab ht) (tdS_eq hE) _ _ _ _⟩
  |false=>
   rw[hz]at hn
   obtain⟨s,hs,hn⟩:=ob_some.1 (show ob v.asS _=some n from hn)
   cases hn
   rw[asS_eq hs]at hv
   obtain⟨l,cap,A,hl,rfl,hc,ha⟩:=hv.sl_inv
   exact⟨_,.int _ _,fun w=>run_len w (hG.tab ht) (tdS_eq hE) _ _ _ _⟩
end
end Go.Gx
end
section
namespace Go.Gx
open Go Go.Sx Go.RowKit

theorem foldSet (off:Nat):∀(vs:List Value) (k:Nat) (cs:Array Value),off+k+vs.length<=cs.size->
  ((vs.zipIdx k).foldl (fun cs p=>cs.setIfInBounds (off+p.2) p.1) cs).size=cs.size∧
  ∀i,((vs.zipIdx k).foldl (fun cs p=>cs.setIfInBounds (off+p.2) p.1) cs)[i]? = if off+k<=i∧i<off+k+vs.length then vs[i - (off+k)]? else cs[i]?
 | [],k,cs,_=>⟨rfl,fun i=>by rw[if_neg (by simp)];rfl⟩
 | v :: vs, k, cs, h => by
  simp only[List.length_cons]at h
  simp only[List.zipIdx_cons,List.foldl_cons]
  obtain⟨h1,h2⟩:=foldSet off vs (k+1) (cs.setIfInBounds (off+k) v) (by simp;omega)
  refine⟨by rw[h1];simp,fun i=> ?_⟩
  rw[h2 i]
  by_cases e:i=off+k
  ·subst e
   rw[if_neg (by omega),if_pos (by simp),Array.getElem?_setIfInBounds_self_of_lt (by omega)]
   simp
  ·by_cases e2:off+(k+1)<=i∧i<off+(k+1)+vs.length
   ·rw[if_pos e2,if_pos (by simp;omega)]
    have:i - (off+k)=(i - (off+(k+1)))+1:=by omega
    rw[this,List.getElem?_cons_succ]
   ·rw[if_neg e2,if_neg (by simp;omega),Array.getElem?_setIfInBounds_ne (Ne.symm e)]
section
variable {P:Program} {tb:TB} {ρ:Rho} {V U W:Value} {v u t g:GV}
structure RlC (ρ:Rho) (cs:List GV) (a:Array Value):Prop where
 r:RlL ρ cs a.toList
 one:∀v∈a.toList,Go.Sx.one v=true
theorem getOne {a:Array Value} (h:∀v∈a.toList,one v=true) {i:Nat} {v:Value} (hv:a[i]? = some v):one v=true:=h v (by
 rw[<-Array.getElem?_toList]at hv;exact List.mem_of_getElem? hv)
theorem fill_step {cs c1 cc:List GV} {a:Array Value} {off sz:Nat} {x:Value} (hr:RlC ρ cs a) (hx:Rl ρ g x) (hc:g.cells=some cc) (hl:cc.length=sz) (h0:sz≠0) (hp:gput cc off cs=some c1):
  (x.cells.size=sz∧off+x.cells.size<=a.size)∧RlC ρ c1 (x.cells.zipIdx.foldl (fun cs (c,j)=>cs.setIfInBounds (off+j) c) a):=by
 obtain⟨vs,e,hvs,h1⟩:=hx.cells hc
 obtain⟨p1,p2,p3⟩:=gput_eq hp
 have hne:cc≠[]:=by intro e;subst e;exact h0 hl.symm
 have p1:=p1 hne
 have hlen:cc.length=vs.length:=hvs.len
 have hsz:cs.length=a.size:=by have:=hr.r.len;simpa using this
 rw[e]
 have hfit:off+0+vs.length<=a.size:=by omega
 obtain⟨f1,f2⟩:=foldSet off vs 0 a hfit
 have ef:(vs.toArray.zipIdx.foldl (fun cs (c,j)=>cs.setIfInBounds (off+j) c) a)=((vs.zipIdx 0).foldl (fun cs p=>cs.setIfInBounds (off+p.2) p.1) a):=by
  simp
 refine⟨⟨by simp;omega,by simp;omega⟩,?_⟩
 rw[ef]
 refine⟨⟨by simp[f1,p2,hsz],fun i b c hb hc=> ?_⟩,fun y hy=> ?_⟩
 ·rw[p3 i]at hb
  rw[Array.getElem?_toList,f2 i]at hc
  simp only[Nat.add_zero]at hc
  by_cases hi:off<=i∧i<off+cc.length
  ·rw[if_pos hi]at hb
   rw[if_pos (by omega)]at hc
   exact hvs.at' _ _ _ hb hc
  ·rw[if_neg hi]at hb
   rw[if_neg (by omega)]at hc
   exact hr.r.at' i b c hb (by rw[Array.getElem?_toList];exact hc)
 ·obtain⟨i,hi⟩:=List.mem_iff_getElem?.1 hy
  rw[Array.getElem?_toList,f2 i]at hi
  split at hi
  ·exact h1 y (List.mem_of_getElem? hi)
  ·exact getOne hr.one hi
theorem gfillA_ok {sz:Nat}:∀{l:List (Nat×GV)} {parts:List (Nat×Value)} {cs cs':List GV} {a:Array Value},RlP ρ l parts->RlC ρ cs a->gfillA sz l cs=some cs'->
  ∃a',Instr.fill (fun i=>some (i*sz,sz)) a parts=some a'∧RlC ρ cs' a'
 | [],parts,cs,cs',a,hp,hr,h=>by
  have:parts=[]:=by have:=hp.1;simpa using this.symm
  subst this;cases h;exact⟨a,rfl,hr⟩
 | p :: l, parts, cs, cs', a, hp, hr, h => by
  cases parts with
  |nil=>have:=hp.1;simp at this
  |cons q parts=>
   obtain⟨e1,e2⟩:=hp
   simp only[List.map_cons,List.cons.injEq]at e1
   obtain⟨y,ys,e3,h1,h2⟩:=e2.of_cons
   simp only[List.map_cons,List.cons.injEq]at e3
   obtain⟨rfl,rfl⟩:=e3
   obtain⟨cc,hcc,h⟩:=ob_some.1 (show ob p.2.cells (fun cc=>bif Nat.beq cc.length sz then(bif Nat.beq sz 0 then none else ob (gput cc (Nat.mul p.1 sz) cs) (gfillA sz l))else none)=some cs' from h)
   obtain⟨hl,h⟩:=bif_some.1 h
   obtain⟨h0,h⟩:=bif_some'.1 h
   obtain⟨c1,hg,h⟩:=ob_some.1 h
   have h0:sz≠0:=fun e=>by rw[e]at h0;cases h0
   obtain⟨⟨s1,s2⟩,s3⟩:=fill_step hr h1 hcc (Nat.eq_of_beq_eq_true hl) h0 hg
   obtain⟨a',f1,f2⟩:=gfillA_ok ⟨e1.2,h2⟩ s3 h
   refine⟨a',?_,f2⟩
   have e:Nat.mul p.1 sz=q.1*sz:=by rw[<-e1.1];rfl
   rw[e]at s2 s3 f1
   show Instr.fill _ a ((q.1,q.2)::parts)=_
   unfold Instr.fill
   simp only
   rw[if_neg (by simp only[ne_eq,Bool.or_eq_true,decide_eq_true_eq,not_or,Decidable.not_not];omega)]
   exact f1
theorem gfillF_ok {ps:List (Nat×Nat)}:∀{l:List (Nat×GV)} {parts:List (Nat×Value)} {cs cs':List GV} {a:Array Value},RlP ρ l parts->RlC ρ cs a->gfillF ps l cs=some cs'->
  ∃a',Instr.fill (ps.toArray[·]?) a parts=some a'∧RlC ρ cs' a'
 | [],parts,cs,cs',a,hp,hr,h=>by
  have:parts=[]:=by have:=hp.1;simpa using this.symm
  subst this;cases h;exact⟨a,rfl,hr⟩
 | p :: l, parts, cs, cs', a, hp, hr, h => by
  cases parts with
  |nil=>have:=hp.1;simp at this
  |cons q parts=>
   obtain⟨e1,e2⟩:=hp
   simp only[List.map_cons,List.cons.injEq]at e1
   obtain⟨y,ys,e3,h1,h2⟩:=e2.of_cons
   simp only[List.map_cons,List.cons.injEq]at e3
   obtain⟨rfl,rfl⟩:=e3
   obtain⟨pl,hpl,h⟩:=ob_some.1 (show ob (nth ps p.1) (fun q=>ob p.2.cells fun cc=>bif Nat.beq cc.length q.2 then(bif Nat.beq q.2 0 then none else ob (gput cc q.1 cs) (gfillF ps l))else none)=some cs' from h)
   obtain⟨cc,hcc,h⟩:=ob_some.1 h
   obtain⟨hl,h⟩:=bif_some.1 h
   obtain⟨h0,h⟩:=bif_some'.1 h
   obtain⟨c1,hg,h⟩:=ob_some.1 h
   have h0:pl.2≠0:=fun e=>by rw[e]at h0;cases h0
   obtain⟨⟨s1,s2⟩,s3⟩:=fill_step hr h1 hcc (Nat.eq_of_beq_eq_true hl) h0 hg
   obtain⟨a',f1,f2⟩:=gfillF_ok ⟨e1.2,h2⟩ s3 h
   refine⟨a',?_,f2⟩
   rw[nth_eq,e1.1]at hpl
   show Instr.fill _ a ((q.1,q.2)::parts)=_
   unfold Instr.fill
   have:ps.toArray[q.1]? = some pl:=by simpa using hpl
   simp only[this]
   rw[if_neg (by simp only[ne_eq,Bool.or_eq_true,decide_eq_true_eq,not_or,Decidable.not_not];omega)]
   exact f1
theorem zeroOf_ok (hG:TabOk P tb) {T:TypeId} {zc:List GV} (h:zeroOf tb T=some zc):∃d,tb T=some d∧TyOk P T d∧RlC ρ zc d.zero.cells:=by
 obtain⟨d,hd,h⟩:=ob_some.1 (show ob (tb T) _=some zc from h)
 obtain⟨z,hz,h⟩:=ob_some.1 h
 obtain⟨vs,e,hr,h1⟩:=(ofV_ok (ρ:=ρ) hz).cells h
 exact⟨d,hd,hG.tab hd,by rw[e];exact⟨hr,h1⟩⟩
theorem sizesOf_ok (hG:TabOk P tb):∀{fs:List Field} {pl:List (Nat×Nat)},sizesOf tb fs=some pl->fs.mapM (fun f=>(P.info? f.type).map fun i=>(f.offset,i.size))=some pl
 | [],pl,h=>by cases h;rfl
 |f::fs,pl,h=>by
  obtain⟨t,ht,h⟩:=ob_some.1 (show ob (tb f.type) (fun t=>ob (sizesOf tb fs) fun r=>some ((f.offset,t.size)::r))=some pl from h)
  obtain⟨r,hr,h⟩:=ob_some.1 h
  cases h
  obtain⟨i,hi,hs,_,_⟩:=(hG.tab ht).info
  simp[List.mapM_cons,hi,hs,sizesOf_ok hG hr]
theorem vBuild_ok (hG:TabOk P tb) {T:TypeId} {l:List (Nat×GV)} {parts:List (Nat×Value)} (hp:RlP ρ l parts) (h:vBuild tb T l=some g):Comp P ρ (Instr.build T parts.toArray) g:=by
 obtain⟨t,ht,h⟩:=ob_some.1 (show ob (tb T) _=some g from h)
 obtain⟨zc,hz,h⟩:=ob_some.1 h
 obtain⟨d,hd,hT,hC⟩:=zeroOf_ok (ρ:=ρ) hG hz
 rw[ht]at hd;cases hd
 obtain⟨i,hi,hs,_,hzero⟩:=hT.info
 have hu:=hT.und
 suffices hh:∃a',P.built T parts=some a'∧∃cs',g = .agg cs'∧RlC ρ cs' a' by
  obtain⟨a',hb,cs',rfl,hC'⟩:=hh
  refine⟨.agg a',?_,fun w=>run_build w T parts.toArray a' (by simpa using hb)⟩
  have:=Rl.agg' hC'.r hC'.one
  simpa using this
 cases hf:tdF t.desc with
 | some fs =>
  rw[hf]at h
  obtain⟨pl,hpl,h⟩:=ob_some.1 (show ob (placesOf tb T) _=some g from h)
  obtain⟨cs,hfill,h⟩:=ob_some.1 h
  cases h
  obtain⟨fl,hfl,hpl⟩:=ob_some.1 (show ob (fieldsOf tb T) _=some pl from hpl)
  have hfl':fl=fs.toList:=by
   obtain⟨t',ht',h'⟩:=ob_some.1 (show ob (tb T) _=some fl from hfl)
   rw[ht]at ht';cases ht'
   obtain⟨fs',hfs',h'⟩:=ob_some.1 h'
   rw[hf]at hfs';cases hfs';cases h';rfl
  subst hfl'
  obtain⟨a',f1,f2⟩:=gfillF_ok hp hC hfill
  refine⟨a',?_,cs,rfl,f2⟩
  rw[tdF_eq hf]at hu
  unfold Program.built
  simp only[hi,hu,hzero,sizesOf_ok hG hpl]
  exact f1
 |none=>
  rw[hf]at h
  obtain⟨e,he,h⟩:=ob_some.1 (show ob (tdA t.desc) _=some g from h)
  obtain⟨te,hte,h⟩:=ob_some.1 h
  obtain⟨cs,hfill,h⟩:=ob_some.1 h
  cases h
  obtain⟨a',f1,f2⟩:=gfillA_ok hp hC hfill
  refine⟨a',?_,cs,rfl,f2⟩
  rw[tdA_eq he]at hu
  obtain⟨ie,hie,hse,_,_⟩:=(hG.tab hte).info
  unfold Program.built
  simp only[hi,hu,hzero,hie,hse]
  exact f1
end

def ObjOk (ρ:Rho) (w:World) (l:Loc):GO->Prop
 | .cells cs=>∃(cur:Array Value) (T:TypeId),w.heap[l.b]? = some (.cells cur T (0,0))∧cur.size=l.size∧l.off+cs.length<=l.size∧∀(i:Nat) g,cs[i]? = some g->∃v,cur[l.off+i]? = some v∧Rl ρ g v∧one v=true
 | .mp es=>∃(en:Array MapEntry) (clock:Nat),w.heap[l.b]? = some (.map en clock)∧en.size=es.length∧∀(i:Nat) e,es[i]? = some e->∃m,en[i]? = some m∧Rl ρ e.1 m.key∧Rl ρ e.2 m.val
theorem ObjOk.lt {ρ:Rho} {w:World} {l:Loc} {o:GO} (h:ObjOk ρ w l o):l.b<w.heap.size:=by
 cases o with
 |cells cs=>obtain⟨cur,T,h,_⟩:=h;exact(Array.getElem?_eq_some_iff.1 h).1
 |mp es=>obtain⟨cur,T,h,_⟩:=h;exact(Array.getElem?_eq_some_iff.1 h).1
theorem ObjOk.move {ρ ρ':Rho} {w w':World} {l:Loc} {o:GO} (h:ObjOk ρ w l o) (hl:ρ.le ρ') (e:w'.heap[l.b]? = w.heap[l.b]?):ObjOk ρ' w' l o:=by
 cases o with
 |cells cs=>obtain⟨cur,T,h1,h2,h3,h4⟩:=h;exact⟨cur,T,by rw[e];exact h1,h2,h3,fun i g hg=>let ⟨v,a,b,c⟩:=h4 i g hg;⟨v,a,b.le hl,c⟩⟩
 |mp es=>obtain⟨en,cl,h1,h2,h3⟩:=h;exact⟨en,cl,by rw[e];exact h1,h2,fun i g hg=>let ⟨m,a,b,c⟩:=h3 i g hg;⟨m,a,b.le hl,c.le hl⟩⟩
abbrev Gls:=List (Nat×Obj)
def GlsOk (gs:Gls) (w:World) (O:Nat->Prop):Prop:=∀p∈gs,w.heap[p.1]? = some p.2∧¬O p.1
structure Base (gs:Gls) where
 w:World
 O:Nat->Prop
 ok:GlsOk gs w O
def Base.mine {gs:Gls} (b:Base gs) (k:Nat):Prop:=b.w.heap.size<=k∨b.O k
structure Rel {gs:Gls} (w0:Base gs) (ρ:Rho) (H:GH) (w:World):Prop where
 ext:Kept w0.O w0.w w
 live:∀h o,H.get h=some o->∃l,ρ h=some l∧w0.mine l.b∧ObjOk ρ w l o
 inj:∀h h' o o' l l',H.get h=some o->H.get h'=some o'->ρ h=some l->ρ h'=some l'->l.b=l'.b->h=h'
 fresh:∀h,H.n<=h->ρ h=none
 dense:∀h,h<H.n->∃l,ρ h=some l
 /-- the block holds what was written last -/
 vers:∀h v l,H.ver h=some v->ρ h=some l->∃lv,ρ v=some lv∧w.heap[l.b]? = some lv.x∧H.get h=some lv.o
theorem Rel.lt {gs:Gls} {w0:Base gs} {w:World} {ρ:Rho} {H:GH} (R:Rel w0 ρ H w) {h:Nat} {o:GO} (hg:H.get h=some o):h<H.n:=by
 rcases Nat.lt_or_ge h H.n with h'|h'
 ·exact h'
 ·obtain⟨l,hl,_⟩:=R.live h o hg
  rw[R.fresh h h']at hl;cases hl
def Does (P:Program) {gs:Gls} (w0:Base gs) (ρ:Rho) (s:Sem Value) (w:World) (g:GV) (H':GH):Prop:=∃v w' ρ',s.run P w = .ok v w'∧ρ.le ρ'∧Rel w0 ρ' H' w'∧Rl ρ' g v
def Rho.upd (ρ:Rho) (h:Nat) (l:Loc):Rho:=fun k=>if k=h then some l else ρ k
theorem Rho.le_upd {ρ:Rho} {h:Nat} {l:Loc} (hf:ρ h=none):ρ.le (ρ.upd h l):=fun k x hx=>by
 unfold Rho.upd
 by_cases e:k=h
 ·subst e;rw[hf]at hx;cases hx
 ·rw[if_neg e];exact hx
theorem Rel.new {gs:Gls} {w0:Base gs} {w w':World} {ρ:Rho} {H:GH} (R:Rel w0 ρ H w) {o:GO} {l:Loc} (he:Kept w0.O w0.w w') (hb:∀h o' l',H.get h=some o'->ρ h=some l'->w'.heap[l'.b]? = w.heap[l'.b]? ∧ l'.b≠l.b) (h0:w0.mine l.b)
    (ho:ObjOk (ρ.upd H.n l) w' l o) (hx:w'.heap[l.b]? = some l.x) (hlo:l.o=o:=by rfl):ρ.le (ρ.upd H.n l)∧Rel w0 (ρ.upd H.n l) (H.new o) w':=by
  have hle:ρ.le (ρ.upd H.n l):=Rho.le_upd (R.fresh _ (Nat.le_refl _))
  have hne:∀h o',H.get h=some o'->h≠H.n:=fun h o' hg=>Nat.ne_of_lt (R.lt hg)
  have hsame:∀h,h≠H.n->(ρ.upd H.n l) h=ρ h:=fun h hh=>by simp[Rho.upd,hh]
  have hself:(ρ.upd H.n l) H.n=some l:=by simp[Rho.upd]
  refine⟨hle,he,?_,?_,?_,?_,?_⟩
  · intro h o' hg
    rw[GH.get_new]at hg
    by_cases e:h=H.n
    · subst e;rw[if_pos rfl]at hg;cases hg;exact⟨l,hself,h0,ho⟩
    · rw[if_neg e]at hg
      obtain⟨l',hl',hb',ho'⟩:=R.live h o' hg
      exact⟨l',by rw[hsame h e];exact hl',hb',ho'.move hle (hb h o' l' hg hl').1⟩
  · intro h h' o1 o2 l1 l2 hg hg' hl hl' hbb
    rw[GH.get_new]at hg hg'
    by_cases e:h=H.n
    · by_cases e':h'=H.n
      · rw[e,e']
      · rw[if_neg e']at hg'
        rw[hsame h' e']at hl'
        subst e;rw[hself]at hl;cases hl
        exact absurd hbb.symm (hb h' o2 l2 hg' hl').2
    · rw[if_neg e]at hg
      rw[hsame h e]at hl
      by_cases e':h'=H.n
      · subst e';rw[hself]at hl';cases hl'
        exact absurd hbb (hb h o1 l1 hg hl).2
      · rw[if_neg e']at hg'
        rw[hsame h' e']at hl'
        exact R.inj h h' o1 o2 l1 l2 hg hg' hl hl' hbb
  · intro h hh
    have : h ≠ H.n := by have : H.n + 1 ≤ h := hh
                         omega
    rw[hsame h this]
    exact R.fresh h (by have : H.n + 1 ≤ h := hh
                        omega)
  · intro h hh
    have hh:h<H.n+1:=hh
    by_cases e:h=H.n
    · subst e;exact⟨l,hself⟩
    · rw[hsame h e];exact R.dense h (by omega)
  · intro h v l' hv hl'
    rw[GH.ver_new]at hv
    by_cases e:h=H.n
    · subst e;rw[if_pos rfl]at hv;cases hv
      rw[hself]at hl';cases hl'
      exact⟨l,hself,hx,by rw[GH.get_new,if_pos rfl,hlo]⟩
    · rw[if_neg e]at hv
      rw[hsame h e]at hl'
      obtain⟨lv,h1,h2,h3⟩:=R.vers h v l' hv hl'
      obtain⟨p,hp,_⟩:=ob_some.1 (show ob (H.t.get h) _=some v from hv)
      exact⟨lv,hle _ _ h1,by rw[(hb h p.2 l' (by unfold GH.get;rw[hp];rfl) hl').1];exact h2,by rw[GH.get_new,if_neg e];exact h3⟩
theorem Rel.set {gs:Gls} {w0:Base gs} {w w':World} {ρ:Rho} {H:GH} (R:Rel w0 ρ H w) {h:Nat} {o o':GO} {l:Loc} {X:Obj} (hg:H.get h=some o) (hl:ρ h=some l) (he:Kept w0.O w0.w w') (hb:∀k,k≠l.b->w'.heap[k]? = w.heap[k]?) (ho:ObjOk ρ w' l o') (hx:w'.heap[l.b]? = some X):
  ρ.le (ρ.upd H.n ⟨l.b,l.off,l.size,X,o'⟩)∧Rel w0 (ρ.upd H.n ⟨l.b,l.off,l.size,X,o'⟩) (H.set h o') w':=by
 have hle:ρ.le (ρ.upd H.n ⟨l.b,l.off,l.size,X,o'⟩):=Rho.le_upd (R.fresh _ (Nat.le_refl _))
 have hsame:∀k,k≠H.n->(ρ.upd H.n ⟨l.b,l.off,l.size,X,o'⟩) k=ρ k:=fun k hk=>by simp[Rho.upd,hk]
 have hself:(ρ.upd H.n ⟨l.b,l.off,l.size,X,o'⟩) H.n=some ⟨l.b,l.off,l.size,X,o'⟩:=by simp[Rho.upd]
 have key:∀k x,(if k=h then some o' else H.get k)=some x->∃y,H.get k=some y:=fun k x hx=>by
  by_cases e:k=h
  ·subst e;exact⟨o,hg⟩
  ·rw[if_neg e]at hx;exact⟨x,hx⟩
 refine⟨hle,he,?_,?_,?_,?_,?_⟩
 ·intro k x hk
  rw[GH.get_set]at hk
  by_cases e:k=h
  ·subst e;rw[if_pos rfl]at hk;cases hk
   obtain⟨l',hl',h0,_⟩:=R.live k o hg
   rw[hl]at hl';cases hl'
   exact⟨l,hle _ _ hl,h0,ho.move hle rfl⟩
  ·rw[if_neg e]at hk
   obtain⟨l',hl',h0,ho'⟩:=R.live k x hk
   refine⟨l',hle _ _ hl',h0,ho'.move hle (hb _ fun e'=>e (R.inj k h x o l' l hk hg hl' hl e'))⟩
 ·intro k k' o1 o2 l1 l2 h1 h2 hl1 hl2 hbb
  rw[GH.get_set]at h1 h2
  obtain⟨y1,hy1⟩:=key k o1 h1
  obtain⟨y2,hy2⟩:=key k' o2 h2
  rw[hsame k (Nat.ne_of_lt (R.lt hy1))]at hl1
  rw[hsame k' (Nat.ne_of_lt (R.lt hy2))]at hl2
  exact R.inj k k' y1 y2 l1 l2 hy1 hy2 hl1 hl2 hbb
 ·intro k hk
  have hk':H.n+1<=k:=hk
  rw[hsame k (by omega)]
  exact R.fresh k (by omega)
 ·intro k hk
  have hk:k<H.n+1:=hk
  by_cases e:k=H.n
  ·subst e;exact⟨_,hself⟩
  ·rw[hsame k e];exact R.dense k (by omega)
 ·intro k v l' hv hl'
  rw[GH.ver_set]at hv
  by_cases e:k=h
  ·subst e;rw[if_pos rfl]at hv;cases hv
   rw[hsame k (Nat.ne_of_lt (R.lt hg)),hl]at hl';cases hl'
   exact⟨_,hself,hx,by rw[GH.get_set,if_pos rfl]⟩
  ·rw[if_neg e]at hv
   obtain⟨p,hp,_⟩:=ob_some.1 (show ob (H.t.get k) _=some v from hv)
   have hgk:H.get k=some p.2:=by unfold GH.get;rw[hp];rfl
   rw[hsame k (Nat.ne_of_lt (R.lt hgk))]at hl'
   obtain⟨lv,h1,h2,h3⟩:=R.vers k v l' hv hl'
   exact⟨lv,hle _ _ h1,by rw[hb l'.b fun e'=>e (R.inj k h p.2 o l' l hgk hg hl' hl e')];exact h2,by rw[GH.get_set,if_neg e];exact h3⟩
theorem Rel.del {gs:Gls} {w0:Base gs} {w:World} {ρ:Rho} {H:GH} (R:Rel w0 ρ H w) (h:Nat):Rel w0 ρ (H.del h) w:=by
 have key:∀k x,(H.del h).get k=some x->H.get k=some x:=fun k x hx=>by
  rw[GH.get_del]at hx
  by_cases e:k=h
  ·rw[if_pos e]at hx;cases hx
  ·rw[if_neg e]at hx;exact hx
 exact⟨R.ext,fun k x hx=>R.live k x (key k x hx),fun k k' o1 o2 l1 l2 h1 h2=>R.inj k k' o1 o2 l1 l2 (key _ _ h1) (key _ _ h2),R.fresh,R.dense,fun k v l hv hl=>by
  rw[GH.ver_del]at hv
  by_cases e:k=h
  ·rw[if_pos e]at hv;cases hv
  ·rw[if_neg e]at hv
   obtain⟨lv,h1,h2,h3⟩:=R.vers k v l hv hl
   exact⟨lv,h1,h2,by rw[GH.get_del,if_neg e];exact h3⟩⟩
theorem Rel.ext' {gs:Gls} {w0:Base gs} {w w':World} {ρ:Rho} {H:GH} (R:Rel w0 ρ H w) (e:Ext w w'):Rel w0 ρ H w':=
 ⟨R.ext.trans e,fun h o hg=>let ⟨l,a,b,c⟩:=R.live h o hg;⟨l,a,b,c.move (Rho.le_refl _) (e.block _ c.lt)⟩,R.inj,R.fresh,R.dense,fun h v l hv hl=>by
  obtain⟨lv,h1,h2,h3⟩:=R.vers h v l hv hl
  exact⟨lv,h1,(by rw[e.block _ (Array.getElem?_eq_some_iff.1 h2).1];exact h2),h3⟩⟩
theorem Rel.mono {gs gs':Gls} {w0:Base gs} {w0':Base gs'} {w w':World} {ρ ρ':Rho} {H H':GH} (R:Rel w0 ρ H w) (R':Rel w0' ρ' H' w') (hle:ρ.le ρ'):H.n<=H'.n:=by
 rcases Nat.lt_or_ge H'.n H.n with h|h
 ·obtain⟨l,hl⟩:=R.dense _ h
  have:=R'.fresh _ (Nat.le_refl _)
  rw[hle _ _ hl]at this;cases this
 ·exact h
def Held (ρ:Rho) (H:GH) (k:Nat):Prop:=∃h o l,H.get h=some o∧ρ h=some l∧l.b=k
theorem Rel.glo {gs:Gls} {w0:Base gs} {w:World} {ρ:Rho} {H:GH} (R:Rel w0 ρ H w):GlsOk gs w (Held ρ H):=fun p hp=>by
 obtain⟨h1,h2⟩:=w0.ok p hp
 have hlt:p.1<w0.w.heap.size:=(Array.getElem?_eq_some_iff.1 h1).1
 refine⟨by rw[R.ext.block p.1 hlt h2];exact h1,fun⟨h,o,l,hg,hl,e⟩=> ?_⟩
 obtain⟨l',hl',hb,_⟩:=R.live h o hg
 rw[hl]at hl';cases hl'
 rw[e]at hb
 rcases hb with hb|hb
 ·omega
 ·exact h2 hb
def Rel.base {gs:Gls} {w0:Base gs} {w:World} {ρ:Rho} {H:GH} (R:Rel w0 ρ H w):Base gs:=⟨w,Held ρ H,R.glo⟩
def Base.of {gs:Gls} (w:World) (h:GlsOk gs w fun _=>False):Base gs:=⟨w,fun _=>False,h⟩
def Base.one (w:World):Base []:= .of w fun _ h=>absurd h List.not_mem_nil
theorem Rel.rebase {gs:Gls} {w0:Base gs} {w:World} {ρ:Rho} {H:GH} (R:Rel w0 ρ H w):Rel R.base ρ H w:=
 ⟨Kept.refl _,fun h o hg=>let ⟨l,a,_,c⟩:=R.live h o hg;⟨l,a,.inr ⟨h,o,l,hg,a,rfl⟩,c⟩,R.inj,R.fresh,R.dense,R.vers⟩
theorem Rel.back {gs:Gls} {w0:Base gs} {w w':World} {ρ ρ':Rho} {H H':GH} (R:Rel w0 ρ H w) (R':Rel R.base ρ' H' w'):Rel w0 ρ' H' w'∧∀k,k<w.heap.size->¬Held ρ H k->w'.heap[k]? = w.heap[k]?:=by
 have hm:∀k,Held ρ H k->w0.mine k:=fun k ⟨h,o,l,hg,hl,e⟩=>by
  obtain⟨l',hl',hb,_⟩:=R.live h o hg
  rw[hl]at hl';cases hl'
  rw[<-e];exact hb
 refine⟨⟨⟨R'.ext.os.trans R.ext.os,R'.ext.tape.trans R.ext.tape,R'.ext.output.trans R.ext.output,Nat.le_trans R.ext.size R'.ext.size,fun k hk hO=> ?_⟩,fun h o hg=> ?_,R'.inj,R'.fresh,R'.dense,R'.vers⟩,fun k hk hh=>R'.ext.block k hk hh⟩
 ·rw[R'.ext.block k (Nat.lt_of_lt_of_le hk R.ext.size) (fun hh=>by rcases hm k hh with h|h;exact absurd h (by omega);exact hO h)]
  exact R.ext.block k hk hO
 ·obtain⟨l,hl,hb,ho⟩:=R'.live h o hg
  refine⟨l,hl,?_,ho⟩
  rcases hb with hb|hb
  ·exact .inl (Nat.le_trans R.ext.size hb)
  ·exact hm _ hb
section
variable {P:Program} {tb:TB} {ρ:Rho} {V U W:Value} {v u t g:GV} {gs:Gls} {w0:Base gs} {w:World} {H H':GH}
theorem Rel.alloc (R:Rel w0 ρ H w) {cs:List GV} {a:Array Value} (T:TypeId) (hr:RlC ρ cs a):
  ∃ρ',ρ.le ρ'∧ρ'=ρ.upd H.n ⟨w.heap.size,0,a.size,.cells a T,.cells cs⟩∧Rel w0 ρ' (H.new (.cells cs)) (w.alloc (.cells a T)):=by
 have e:Ext w (w.alloc (.cells a T)):=(Below.refl _ _).alloc (Nat.le_refl _) _
 have h:=R.new (o:= .cells cs) (l:=⟨w.heap.size,0,a.size,.cells a T,.cells cs⟩) (R.ext.trans e) (fun h o' l' hg hl=>by
  obtain⟨l,hl',_,ho⟩:=R.live h o' hg
  rw[hl]at hl';cases hl'
  exact⟨e.block _ ho.lt,Nat.ne_of_lt ho.lt⟩) (.inl R.ext.size) (by
  refine⟨a,T,heap_alloc_new w _,rfl,by have:=hr.r.len;simp at this;simp[this],fun i g hg=> ?_⟩
  obtain⟨x,hx,hrx⟩:=hr.r.get hg
  rw[Array.getElem?_toList]at hx
  exact⟨x,by simpa using hx,hrx.le (Rho.le_upd (R.fresh _ (Nat.le_refl _))),getOne hr.one hx⟩) (heap_alloc_new w _)
 exact⟨_,h.1,rfl,h.2⟩
theorem vBox_ok {T:TypeId} (R:Rel w0 ρ H w) (hv:Rl ρ v V) (h:vBox v H=some (g,H')):Does P w0 ρ (Instr.box T V) w g H':=by
 obtain⟨vc,hc,h⟩:=ob_some.1 (show ob v.cells _=some (g,H')from h)
 rw[GH.newK_eq]at h;cases h
 obtain⟨vs,e,hr,h1⟩:=hv.cells hc
 obtain⟨ρ',hle,rfl,R'⟩:=R.alloc T (cs:=vc) (a:=V.cells) (by rw[e];exact⟨hr,h1⟩)
 refine⟨_,_,_,?_,hle,R',.ptr (l:=⟨w.heap.size,0,V.cells.size,.cells V.cells T,.cells vc⟩) 0 (by simp[Rho.upd])⟩
 simp[Instr.box,newVar,newRow]
theorem vAlloc_ok (hG:TabOk P tb) {T:TypeId} (R:Rel w0 ρ H w) (h:vAlloc tb T H=some (g,H')):Does P w0 ρ (Instr.alloc T true (.tuple #[])) w g H':=by
 obtain⟨zc,hz,h⟩:=ob_some.1 (show ob (zeroOf tb T) _=some (g,H')from h)
 rw[GH.newK_eq]at h;cases h
 obtain⟨d,hd,hT,hC⟩:=zeroOf_ok (ρ:=ρ) hG hz
 obtain⟨ρ',hle,rfl,R'⟩:=R.alloc T hC
 exact⟨_,_,_,run_alloc w hT,hle,R',.ptr (l:=⟨w.heap.size,0,d.zero.cells.size,.cells d.zero.cells T,.cells zc⟩) 0 (by simp[Rho.upd])⟩
theorem Rel.cells (R:Rel w0 ρ H w) {h:Nat} {cs:List GV} (hc:H.cells h=some cs) {l:Loc} (hl:ρ h=some l):ObjOk ρ w l (.cells cs):=by
 obtain⟨l',hl',_,ho⟩:=R.live h _ (GH.cells_eq.1 hc)
 rw[hl]at hl';cases hl';exact ho
theorem vLoad_ok (hG:TabOk P tb) {T:TypeId} (R:Rel w0 ρ H w) (hv:Rl ρ v V) (h:vLoad tb T v H=some g):∃(x:Value) (p:Nat×Nat) (l:Loc),v = .ptr p.1 p.2∧ρ p.1=some l∧(∃o,H.get p.1=some o)∧Rl ρ g x∧∀w',w'.heap[l.b]? = w.heap[l.b]? -> (Instr.loadAt T V).run P w' = .ok x w':=by
 obtain⟨p,hp,h⟩:=ob_some.1 (show ob v.asP _=some g from h)
 obtain⟨cs,hcs,h⟩:=ob_some.1 h
 obtain⟨t,ht,h⟩:=ob_some.1 h
 have hpe:=asP_eq hp
 have hg0:=GH.cells_eq.1 hcs
 rw[asP_eq hp]at hv
 obtain⟨l,hl,rfl⟩:=hv.ptr_inv
 obtain⟨cur,T',hb,hsz,hfit,hcell⟩:=R.cells hcs hl
 have hT:=hG.tab ht
 unfold ofCells at h
 cases ha:aggD t.desc with
 | true =>
  rw[ha]at h
  obtain⟨r,hs,h⟩:=ob_some.1 h
  cases h
  obtain⟨hbnd,rfl⟩:=slc_eq hs
  let vs:=((cur.toList.drop (l.off+p.2)).take t.size)
  have hlen:vs.length=t.size:=by simp[vs];omega
  have hrel:RlL ρ ((cs.drop p.2).take t.size) vs:=⟨by rw[hlen];simp;omega,fun i a b hai hbi=>by
   simp only[vs]at hbi
   rw[List.getElem?_take]at hai hbi
   by_cases hi:i<t.size
   ·rw[if_pos hi,List.getElem?_drop]at hai hbi
    obtain⟨x,h1,h2,_⟩:=hcell _ _ hai
    rw[Array.getElem?_toList,show l.off+p.2+i=l.off+(p.2+i) by omega,h1]at hbi
    cases hbi;exact h2
   ·rw[if_neg hi]at hai;cases hai⟩
  have hone:∀x∈vs,one x=true:=fun x hx=>by
   obtain⟨i,hi⟩:=List.mem_iff_getElem?.1 hx
   have hlt:=getElem?_lt hi
   have hai:((cs.drop p.2).take t.size)[i]? = some (cs[p.2+i]'(by omega)):=by
    rw[List.getElem?_take,if_pos (by omega),List.getElem?_drop,List.getElem?_eq_getElem (by omega)]
   simp only[vs]at hi
   rw[List.getElem?_take,if_pos (by omega),List.getElem?_drop,Array.getElem?_toList,show l.off+p.2+i=l.off+(p.2+i) by omega]at hi
   obtain⟨y,h1,_,h3⟩:=hcell (p.2+i) _ (List.getElem?_eq_getElem (by omega))
   rw[h1]at hi;cases hi;exact h3
  refine⟨_,p,l,hpe,hl,⟨_,hg0⟩,Rl.agg' hrel hone,fun w' hw'=> ?_⟩
  rw[hb]at hw'
  refine run_loadAll hT ha hlen (fun j x hx=> ?_)
  rw[add_none]
  have hlt:=getElem?_lt hx
  simp only[vs]at hx
  rw[List.getElem?_take,if_pos (by omega),List.getElem?_drop,Array.getElem?_toList]at hx
  simp[World.cell?,hw',hx]
 |false=>
  rw[ha]at h
  rw[cond_false,nth_eq]at h
  obtain⟨x,h1,h2,_⟩:=hcell _ _ h
  exact⟨x,p,l,hpe,hl,⟨_,hg0⟩,h2,fun w' hw'=>run_load1 hT ha (by rw[hb]at hw';simp[World.cell?,hw',h1])⟩
theorem vStore_ok (hG:TabOk P tb) {T:TypeId} (R:Rel w0 ρ H w) (hv:Rl ρ v V) (hu:Rl ρ u U) (h:vStore tb T v u H=some (g,H')):g = .un∧∃w' ρ',(Instr.storeAt T V U).run P w = .ok () w'∧ρ.le ρ'∧Rel w0 ρ' H' w':=by
 obtain⟨p,hp,h⟩:=ob_some.1 (show ob v.asP _=some (g,H')from h)
 obtain⟨cs,hcs,h⟩:=ob_some.1 h
 obtain⟨t,ht,h⟩:=ob_some.1 h
 obtain⟨uc,huc,h⟩:=ob_some.1 h
 obtain⟨hl1,h⟩:=bif_some.1 h
 obtain⟨h0,h⟩:=bif_some'.1 h
 obtain⟨c1,hput,h⟩:=ob_some.1 h
 rw[GH.setK_eq]at h
 cases h
 refine⟨rfl,?_⟩
 rw[asP_eq hp]at hv
 obtain⟨l,hl,rfl⟩:=hv.ptr_inv
 obtain⟨cur,T',hb,hsz,hfit,hcell⟩:=R.cells hcs hl
 obtain⟨us,eU,hus,hone⟩:=hu.cells huc
 have hT:=hG.tab ht
 have hlen:uc.length=t.size:=Nat.eq_of_beq_eq_true hl1
 have hul:uc.length=us.length:=hus.len
 have hne:uc≠[]:=by intro e;rw[e]at hlen;simp at hlen;rw[<-hlen]at h0;cases h0
 obtain⟨p1,p2,p3⟩:=gput_eq hput
 have p1:=p1 hne
 have hst:=run_storeCells_at P l.b (l.off+p.2) T' us 0 cur w hb (by omega) (fun x hx=>one_oneCell (hone x hx))
 simp only[Nat.add_zero]at hst
 refine⟨w.setRow l.b (cur.toList.take (l.off+p.2)++us++cur.toList.drop (l.off+p.2+us.length)).toArray,_,?_,R.set (GH.cells_eq.1 hcs) hl ?_ (fun k hk=>setRow_other w l.b k _ hk) ?_ (setRow_heap w l.b _ _ T' _ hb)⟩
 ·have hs:=hT.run_size w
  simp only[Instr.storeAt,Instr.sureAddr,storeVar,eU]
  have e:us.toArray.size=t.size:=by simp;omega
  simp[hs,e,hst]
 ·obtain⟨l',hl',hbase,_⟩:=R.live _ _ (GH.cells_eq.1 hcs)
  rw[hl]at hl';cases hl'
  exact⟨R.ext.os,R.ext.tape,R.ext.output,by simpa using R.ext.size,fun k hk hO=>by
   rw[setRow_other w l.b k _ (fun e=>by subst e;rcases hbase with hbase|hbase;exact absurd hbase (by omega);exact hO hbase)];exact R.ext.block k hk hO⟩
 ·refine⟨_,T',setRow_heap w l.b _ _ T' _ hb,?_,by omega,fun i x hx=> ?_⟩
  ·simp;omega
  ·rw[p3 i]at hx
   have hcl:cur.toList.length=cur.size:=by simp
   have key:(cur.toList.take (l.off+p.2)++us++cur.toList.drop (l.off+p.2+us.length)).toArray[l.off+i]? = if p.2<=i∧i<p.2+us.length then us[i - p.2]? else cur[l.off+i]?:=by
    rw[List.getElem?_toArray,List.append_assoc]
    by_cases hi:i<p.2
    ·rw[if_neg (by omega),List.getElem?_append_left (by simp;omega),List.getElem?_take,if_pos (by omega),Array.getElem?_toList]
    ·rw[List.getElem?_append_right (by simp;omega),List.length_take]
     have e1:min (l.off+p.2) cur.toList.length=l.off+p.2:=by omega
     rw[e1]
     by_cases hi2:i<p.2+us.length
     ·rw[if_pos (by omega),List.getElem?_append_left (by omega)]
      congr 1;omega
     ·rw[if_neg (by omega),List.getElem?_append_right (by omega),List.getElem?_drop,Array.getElem?_toList]
      congr 1;omega
   by_cases hi:p.2<=i∧i<p.2+uc.length
   ·rw[if_pos hi]at hx
    obtain⟨y,hy,hr⟩:=hus.get hx
    exact⟨y,by rw[key,if_pos (by omega)];exact hy,hr,hone y (List.mem_of_getElem? hy)⟩
   ·rw[if_neg hi]at hx
    obtain⟨y,hy,hr⟩:=hcell i x hx
    exact⟨y,by rw[key,if_neg (by omega)];exact hy,hr⟩
end
end Go.Gx
end
section
namespace Go.Gx
open Go Go.Sx Go.RowKit
section
variable {P:Program} {tb:TB} {ρ:Rho} {V U W:Value} {v u t g:GV} {gs:Gls} {w0:Base gs} {w:World} {H H':GH}

theorem rep_len (z:List GV):∀n,(rep z n).length=n*z.length
 |0=>by show([]:List GV).length=_;simp
 |n+1=>by
  have:rep z (n+1)=z++rep z n:=rfl
  rw[this,List.length_append,rep_len z n,Nat.add_mul];omega
theorem rep_get (z:List GV) (hz:0<z.length):∀(n i:Nat),i<n*z.length->(rep z n)[i]? = z[i%z.length]?
 |0,i,h=>by simp at h
 |n+1,i,h=>by
  have:rep z (n+1)=z++rep z n:=rfl
  rw[this]
  by_cases hi:i<z.length
  ·rw[List.getElem?_append_left hi,Nat.mod_eq_of_lt hi]
  ·rw[List.getElem?_append_right (by omega),rep_get z hz n (i - z.length) (by have:(n+1)*z.length=n*z.length+z.length:=Nat.succ_mul n z.length;omega),<-Nat.mod_eq_sub_mod (by omega)]
theorem rep_rel {zc:List GV} {z:Array Value} (hC:RlC ρ zc z) (h0:0<zc.length) (n:Nat):RlC ρ (rep zc n) ((Array.range (n*zc.length)).map (z[· % z.size]!)):=by
 have hl:zc.length=z.size:=by have:=hC.r.len;simpa using this
 have hz:0<z.size:=by omega
 have hget:∀i,i<n*zc.length->z[i%z.size]? = some (z[i%z.size]!):=fun i _=>by
  have hm:i%z.size<z.size:=Nat.mod_lt _ hz
  rw[getElem!_pos z (i%z.size) hm];simp
 refine⟨⟨by simp[rep_len],fun i a b ha hb=> ?_⟩,fun x hx=> ?_⟩
 ·have hi:=getElem?_lt ha
  rw[rep_len]at hi
  rw[rep_get zc h0 n i hi]at ha
  have hb':some (z[i%z.size]!)=some b:=by
   rw[<-hb,Array.getElem?_toList]
   simp[hi]
  cases hb'
  refine hC.r.at' (i%zc.length) a _ ha ?_
  rw[Array.getElem?_toList,hl]
  exact hget i hi
 ·simp only[Array.toList_map,List.mem_map]at hx
  obtain⟨i,hi,rfl⟩:=hx
  have hi:i<n*zc.length:=by simpa using hi
  exact getOne hC.one (hget i hi)
theorem gfillA_len {sz:Nat}:∀{l:List (Nat×GV)} {r0 cs:List GV},gfillA sz l r0=some cs->cs.length=r0.length
 | [],r0,cs,h=>by cases h;rfl
 |p::l,r0,cs,h=>by
  obtain⟨cc,hcc,h⟩:=ob_some.1 (show ob p.2.cells (fun cc=>bif Nat.beq cc.length sz then(bif Nat.beq sz 0 then none else ob (gput cc (Nat.mul p.1 sz) r0) (gfillA sz l))else none)=some cs from h)
  obtain⟨_,h⟩:=bif_some.1 h
  obtain⟨_,h⟩:=bif_some'.1 h
  obtain⟨c1,hg,h⟩:=ob_some.1 h
  rw[gfillA_len h]
  exact(gput_eq hg).2.1
theorem vBuildS_ok (hG:TabOk P tb) {T:TypeId} {n:Nat} {l:List (Nat×GV)} {parts:List (Nat×Value)} (R:Rel w0 ρ H w) (hp:RlP ρ l parts) (h:vBuildS tb T n l H=some (g,H')):Does P w0 ρ (Instr.buildSlice T n parts.toArray) w g H':=by
 obtain⟨te,hte,h⟩:=ob_some.1 (show ob (elemOf tb T) _=some (g,H')from h)
 obtain⟨zc,hz,h⟩:=ob_some.1 h
 obtain⟨hlen,h⟩:=bif_some.1 h
 obtain⟨hbig,h⟩:=bif_some.1 h
 obtain⟨h0,h⟩:=bif_some'.1 h
 obtain⟨cs,hfill,h⟩:=ob_some.1 h
 rw[GH.newK_eq]at h;cases h
 obtain⟨⟨d,hd,hde⟩,hE,htab⟩:=elemOf_ok hG hte
 obtain⟨dz,hdz,_,hC⟩:=zeroOf_ok (ρ:=ρ) hG hz
 rw[htab]at hdz;cases hdz
 have hlen:zc.length=te.2.size:=Nat.eq_of_beq_eq_true hlen
 have h0:te.2.size≠0:=fun e=>by rw[e]at h0;cases h0
 have hbig:n*te.2.size<16777216:=by simpa [Nat.blt_eq]using hbig
 have hrep:=rep_rel hC (by omega) n
 rw[hlen]at hrep
 obtain⟨a',f1,f2⟩:=gfillA_ok hp hrep hfill
 obtain⟨ρ',hle,rfl,R'⟩:=R.alloc te.1 f2
 have hsz:a'.size=n*te.2.size:=by
  have e1:=f2.r.len
  have:cs.length=(rep zc n).length:=gfillA_len hfill
  rw[this,rep_len,hlen]at e1
  simp at e1;omega
 refine⟨_,_,_,?_,hle,R',.sl (l:=⟨w.heap.size,0,a'.size,.cells a' te.1,.cells cs⟩) (cap:=n) (A:=⟨w.heap.size,0,none⟩) (by simp[Rho.upd]) (Nat.le_refl _) (.inr ⟨rfl,by simp[hsz]⟩)⟩
 have hu:=hd.run_und w
 rw[hde]at hu
 by_cases hn:n*te.2.size=0
 ·have hz0:n=0:=by rcases Nat.mul_eq_zero.1 hn with h|h;exact h;exact absurd h h0
  subst hz0
  have e0:(Array.range (0*te.2.size)).map (te.2.zero.cells[· % te.2.zero.cells.size]!)=(#[]:Array Value):=by simp
  rw[e0]at f1
  have e1:(Array.range 0).map (fun _=>(default:Value)) = #[]:=by simp
  simp[Instr.buildSlice,hu,hE.run_size w,newRow]
  simp[e1,f1]
 ·simp[Instr.buildSlice,hu,hE.run_size w,hE.run_zero w,hn,f1,newRow,show¬(16777216<n*te.2.size) by omega]
theorem vMake_ok (hG:TabOk P tb) {T:TypeId} (R:Rel w0 ρ H w) (hv:Rl ρ v V) (hu:Rl ρ u U) (h:vMake tb T v u H=some (g,H')):Does P w0 ρ (Instr.makeSlice T V U) w g H':=by
 obtain⟨te,hte,h⟩:=ob_some.1 (show ob (elemOf tb T) _=some (g,H')from h)
 obtain⟨zc,hz,h⟩:=ob_some.1 h
 obtain⟨k,hk,h⟩:=ob_some.1 h
 obtain⟨c,hc,h⟩:=ob_some.1 h
 obtain⟨heq,h⟩:=bif_some.1 h
 obtain⟨n,hn,h⟩:=ob_some.1 h
 obtain⟨hlen,h⟩:=bif_some.1 h
 obtain⟨hby,h⟩:=bif_some.1 h
 obtain⟨hn2,h⟩:=bif_some.1 h
 obtain⟨h0,h⟩:=bif_some'.1 h
 rw[fc_eq,GH.newK_eq]at h;cases h
 obtain⟨⟨d,hd,hde⟩,hE,htab⟩:=elemOf_ok hG hte
 obtain⟨dz,hdz,_,hC⟩:=zeroOf_ok (ρ:=ρ) hG hz
 rw[htab]at hdz;cases hdz
 have hlen:zc.length=te.2.size:=Nat.eq_of_beq_eq_true hlen
 have h0:te.2.size≠0:=fun e=>by rw[e]at h0;cases h0
 have hby:n*te.2.bytes<16777216:=by simpa [Nat.blt_eq]using hby
 have hn2:n<16777216:=by simpa [Nat.blt_eq]using hn2
 rw[asI_eq hk]at hv
 rw[asI_eq hc]at hu
 rw[eqI_eq]at heq
 have heq:=of_decide_eq_true heq
 rw[hv.int_inv,hu.int_inv,<-heq,asN_eq hn]
 have hrep:=rep_rel hC (by omega) n
 rw[hlen]at hrep
 obtain⟨ρ',hle,rfl,R'⟩:=R.alloc te.1 hrep
 obtain⟨iE,hiE,hs,hb,hze⟩:=hE.info
 have hund:=hd.und
 rw[hde]at hund
 have hbb:(iE.bytes:Int)*(n:Int)<=281474976710656:=by
  have e:(te.2.bytes:Int)*(n:Int)=((n*te.2.bytes:Nat):Int):=by rw[Nat.mul_comm];simp
  rw[hb,e];omega
 have hr:=run_make (P:=P) w T te.1 iE te.2.zero hund hiE hze k.1 c.1 n n (by omega) (Int.le_refl _) hbb (by omega)
 refine⟨_,_,_,?_,hle,R',.sl (l:=⟨w.heap.size,0,((Array.range (n*te.2.size)).map (te.2.zero.cells[· % te.2.zero.cells.size]!)).size,.cells ((Array.range (n*te.2.size)).map (te.2.zero.cells[· % te.2.zero.cells.size]!)) te.1,.cells (rep zc n)⟩) (cap:=n) (A:=⟨w.heap.size,0,none⟩) (by simp[Rho.upd]) (Nat.le_refl _) (.inr ⟨rfl,by simp⟩)⟩
 rw[hr]
 simp[madeCells,hs]

theorem vB_ok {o:Option GV} {O:Option Value} {d n:Nat} (hr:(o=none∧O=none)∨∃g x,o=some g∧O=some x∧Rl ρ g x) (h:vB o d=some n):(o=none∧O=none∧n=d)∨∃k:IntKind,O=some (.int k n):=by
 rcases hr with⟨rfl,rfl⟩|⟨g,x,rfl,rfl,hx⟩
 ·cases h;exact .inl ⟨rfl,rfl,rfl⟩
 ·obtain⟨a,ha,h⟩:=ob_some.1 (show ob g.asI _=some n from h)
  rw[asI_eq ha]at hx
  exact .inr ⟨a.1,by rw[hx.int_inv,asN_eq h]⟩
def RlO (ρ:Rho) (o:Option GV) (O:Option Value):Prop:=(o=none∧O=none)∨∃g x,o=some g∧O=some x∧Rl ρ g x
theorem run_bounds {sl:Bool} {len cap l h:Nat} {lo hi:Option GV} {LO HI:Option Value} (hlo:RlO ρ lo LO) (hhi:RlO ρ hi HI) (h1:vB lo 0=some l) (h2:vB hi len=some h) (hle:l<=h) (hc:h<=cap) (w:World):
  (Instr.sliceBounds sl len cap LO HI none).run P w = .ok (l,h,cap) w:=by
 rcases vB_ok hlo h1 with⟨_,rfl,rfl⟩|⟨k1,rfl⟩<;>rcases vB_ok hhi h2 with⟨_,rfl,rfl⟩|⟨k2,rfl⟩
 ·simp[Instr.sliceBounds]
 ·simp[Instr.sliceBounds,Instr.sliceBound,asIntOf,hc]
 ·simp[Instr.sliceBounds,Instr.sliceBound,asIntOf,hle]
 ·simp[Instr.sliceBounds,Instr.sliceBound,asIntOf,hle,hc]
theorem vSlice_ok (hG:TabOk P tb) {T:TypeId} {lo hi:Option GV} {LO HI:Option Value} (R:(∃(w0:Base gs) (w:World),Rel w0 ρ H w)∨∀t,tb T=some t->tdA t.desc=none) (hv:Rl ρ v V) (hlo:RlO ρ lo LO) (hhi:RlO ρ hi HI) (h:vSlice tb T v lo hi H=some g):Comp P ρ (Instr.sliceAt T V LO HI none) g:=by
 obtain⟨l,hl,h⟩:=ob_some.1 (show ob (vB lo 0) _=some g from h)
 obtain⟨t,ht,h⟩:=ob_some.1 h
 have hT:=hG.tab ht
 cases hs:v.asStr with
 | some s =>
  rw[hs]at h
  obtain⟨e,he,h⟩:=ob_some.1 (show ob (vB hi s.2) _=some g from h)
  obtain⟨hd,h⟩:=bif_some.1 h
  obtain⟨hle,h⟩:=bif_some.1 (show(bif Nat.ble l e then _ else none)=some g from h)
  obtain⟨hlen,h⟩:=bif_some.1 h
  simp only[sn_eq]at h
  cases h
  have hle:l<=e:=by simpa using hle
  have hlen:e<=s.2:=by simpa using hlen
  rw[asStr_eq hs]at hv
  obtain⟨r,rfl,e1,e2⟩:=hv.str_inv
  have hsz:r.size=s.2:=by rw[e2];exact Lib.size_eq r
  have hx:=Lib.extract_data r l e
  refine⟨.string (r.extract l e),?_,fun w=> ?_⟩
  ·have:Rl ρ (.str (encB (bytesOfV (r.extract l e))) (bytesOfV (r.extract l e)).length) (.string (r.extract l e)):= .str _
   have e3:bytesOfV (r.extract l e)=((bytesOfV r).drop l).take (e - l):=hx
   rw[e3]at this
   rw[e1,encB_sub]
   have e4:(((bytesOfV r).drop l).take (e - l)).length=Nat.sub e l:=by
    simp only[List.length_take,List.length_drop,<-e2]
    show _=e - l
    omega
   rw[e4]at this
   exact this
  ·have hu:=hT.run_und w
   rw[tdStr_eq hd]at hu
   have hb:=run_bounds (P:=P) (sl:=false) (cap:=s.2) hlo hhi hl he hle hlen w
   simp[Instr.sliceAt,hu,Instr.slice,hsz,hb]
 | none =>
  rw[hs]at h
  cases hS:v.asS with
  | some s =>
   simp only[hS]at h
   obtain⟨E,hE,h⟩:=ob_some.1 (show ob (tdS t.desc) _=some g from h)
   obtain⟨te,hte,h⟩:=ob_some.1 h
   obtain⟨e,he,h⟩:=ob_some.1 h
   obtain⟨hsz,h⟩:=bif_some.1 (show(bif Nat.beq te.size s.2.2.2 then _ else none)=some g from h)
   obtain⟨hle,h⟩:=bif_some.1 h
   obtain⟨hlen,h⟩:=bif_some.1 h
   simp only[sn_eq]at h
   cases h
   have hsz:te.size=s.2.2.2:=Nat.eq_of_beq_eq_true hsz
   have hle:l<=e:=by simpa using hle
   have hlen:e<=s.2.2.1:=by simpa using hlen
   rw[asS_eq hS]at hv
   obtain⟨lc,cap,A,hlc,rfl,hc,ha⟩:=hv.sl_inv
   refine⟨.slice (if cap=l then some A else(some A).map (·.add (l*te.size))) (e - l) (cap - l),?_,fun w=> ?_⟩
   ·have e1:(if cap=l then some A else(some A).map (·.add (l*te.size)))=some (if cap=l then A else A.add (l*te.size)):=by split<;>rfl
    rw[e1]
    refine .sl hlc (show e - l<=cap - l by omega) ?_
    by_cases hcl:cap - l=0
    ·exact .inl hcl
    ·right
     rw[if_neg (by omega)]
     rcases ha with ha|⟨rfl,hb⟩
     ·omega
     ·rw[add_none]
      refine⟨by show _=(⟨lc.b,lc.off+(s.2.1+l*te.size),none⟩:Addr);rw[Nat.add_assoc],?_⟩
      have:cap*s.2.2.2=l*te.size+(cap - l)*te.size:=by rw[<-hsz,<-Nat.add_mul];congr 1;omega
      show lc.off+(s.2.1+l*te.size)+(cap - l)*te.size<=lc.size
      omega
   ·have hu:=hT.run_und w
    rw[tdS_eq hE]at hu
    have hb:=run_bounds (P:=P) (sl:=true) (cap:=cap) hlo hhi hl he hle (by omega) w
    simp[Instr.sliceAt,hu,Instr.slice,hb,(hG.tab hte).run_size w]
  | none =>
   simp only[hS]at h
   cases hz:v.isSnil with
   |true=>
    rw[hz]at h
    obtain⟨E,hE,h⟩:=ob_some.1 (show ob (tdS t.desc) _=some g from h)
    obtain⟨te,hte,h⟩:=ob_some.1 h
    obtain⟨e,he,h⟩:=ob_some.1 h
    obtain⟨h0,h⟩:=bif_some.1 h
    obtain⟨h1,h⟩:=bif_some.1 h
    cases h
    have h0:l=0:=Nat.eq_of_beq_eq_true h0
    have h1:e=0:=Nat.eq_of_beq_eq_true h1
    subst h0 h1
    rw[isSnil_eq hz]at hv
    rw[hv.snil_inv]
    refine⟨_,.snil,fun w=> ?_⟩
    have hu:=hT.run_und w
    rw[tdS_eq hE]at hu
    have hb:=run_bounds (P:=P) (sl:=true) (len:=0) (cap:=0) hlo hhi hl he (Nat.le_refl _) (Nat.le_refl _) w
    simp[Instr.sliceAt,hu,Instr.slice,hb,(hG.tab hte).run_size w]
   |false=>
   rw[hz]at h
   obtain⟨p,hp,h⟩:=ob_some.1 (show ob v.asP _=some g from h)
   obtain⟨E,hE,h⟩:=ob_some.1 h
   obtain⟨te,hte,h⟩:=ob_some.1 h
   obtain⟨e,he,h⟩:=ob_some.1 h
   obtain⟨cs,hcs,h⟩:=ob_some.1 h
   obtain⟨hfit,h⟩:=bif_some.1 h
   obtain⟨hle,h⟩:=bif_some.1 (show(bif Nat.ble l e then _ else none)=some g from h)
   obtain⟨hlen,h⟩:=bif_some.1 h
   obtain⟨h0,h⟩:=bif_some'.1 h
   simp only[sn_eq]at h
   cases h
   have hfit:p.2+E.1*te.size<=cs.length:=by simpa using hfit
   have hle:l<=e:=by simpa using hle
   have hlen:e<=E.1:=by simpa using hlen
   rw[asP_eq hp]at hv
   obtain⟨lc,hlc,rfl⟩:=hv.ptr_inv
   rcases R with⟨w0,w,R⟩|R
   rotate_left
   ·rw[R t ht]at hE;cases hE
   obtain⟨cur,T',hb,hcs2,hfit2,_⟩:=R.cells hcs hlc
   refine⟨.slice (some (if E.1=l then⟨lc.b,lc.off+p.2,none⟩else Addr.add ⟨lc.b,lc.off+p.2,none⟩ (l*te.size))) (e - l) (E.1 - l),?_,fun w=> ?_⟩
   ·refine .sl hlc (show e - l<=E.1 - l by omega) ?_
    by_cases hcl:E.1 - l=0
    ·exact .inl hcl
    ·right
     rw[if_neg (by omega),add_none]
     refine⟨by show _=(⟨lc.b,lc.off+(p.2+l*te.size),none⟩:Addr);rw[Nat.add_assoc],?_⟩
     have:E.1*te.size=l*te.size+(E.1 - l)*te.size:=by rw[<-Nat.add_mul];congr 1;omega
     show lc.off+(p.2+l*te.size)+(E.1 - l)*te.size<=lc.size
     omega
   ·have hu:=hT.run_und w
    rw[tdA_eq hE]at hu
    have hb:=run_bounds (P:=P) (sl:=false) (cap:=E.1) hlo hhi hl he hle hlen w
    simp[Instr.sliceAt,hu,Instr.sureAddr,hb,(hG.tab hte).run_size w]
end
end Go.Gx
end
section
namespace Go.Gx
open Go Go.Sx Go.RowKit
section
variable {P:Program} {tb:TB} {ρ:Rho} {V U W:Value} {v u t g:GV} {gs:Gls} {w0:Base gs} {w:World} {H H':GH}

structure Cont (ρ:Rho) (w:World) (sz n:Nat) (r:List GV) (V:Value) (ns:List Value):Prop where
 rel:RlL ρ r ns
 len:ns.length=n*sz
 one:∀x∈ns,Go.Sx.one x=true
 val:∃base cap,V = .slice base n cap∧n<=cap∧((base=none∧n=0∧cap=0)∨∃A,base=some A∧∀(j:Nat) x,ns[j]? = some x->w.cell? (A.add j)=some x)
theorem content_ok (R:Rel w0 ρ H w) {sz:Nat} {p:Nat×List GV} (hv:Rl ρ v V) (h:content H sz v=some p):∃ns,Cont ρ w sz p.1 p.2 V ns:=by
 unfold content at h
 cases hz:v.isSnil with
 |true=>
  rw[hz]at h;cases h
  rw[isSnil_eq hz]at hv
  exact⟨[],.nil,by simp,fun x hx=>by simp at hx,none,0,hv.snil_inv,Nat.le_refl _,.inl ⟨rfl,rfl,rfl⟩⟩
 | false =>
  rw[hz]at h
  obtain⟨s,hs,h⟩:=ob_some.1 (show ob v.asS _=some p from h)
  obtain⟨hsz,h⟩:=bif_some.1 h
  obtain⟨cs,hcs,h⟩:=ob_some.1 h
  obtain⟨r,hr,h⟩:=ob_some.1 h
  cases h
  have hsz:s.2.2.2=sz:=Nat.eq_of_beq_eq_true hsz
  obtain⟨hb,rfl⟩:=slc_eq hr
  have hb:s.2.1+s.2.2.1*sz<=cs.length:=hb
  rw[asS_eq hs]at hv
  obtain⟨l,cap,A,hl,rfl,hc,ha⟩:=hv.sl_inv
  obtain⟨cur,T,hh,hsize,hfit,hcell⟩:=R.cells hcs hl
  let ns:=(cur.toList.drop (l.off+s.2.1)).take (s.2.2.1*sz)
  have hlen:ns.length=s.2.2.1*sz:=by simp[ns];omega
  have hrel:RlL ρ ((cs.drop s.2.1).take (s.2.2.1*sz)) ns:=⟨by rw[hlen];simp;omega,fun i a b hai hbi=>by
   simp only[ns]at hbi
   rw[List.getElem?_take]at hai hbi
   by_cases hi:i<s.2.2.1*sz
   ·rw[if_pos hi,List.getElem?_drop]at hai hbi
    obtain⟨x,h1,h2,_⟩:=hcell _ _ hai
    rw[Array.getElem?_toList,show l.off+s.2.1+i=l.off+(s.2.1+i) by omega,h1]at hbi
    cases hbi;exact h2
   ·rw[if_neg hi]at hai;cases hai⟩
  have hnx:∀(j:Nat) x,ns[j]? = some x->j<s.2.2.1*sz∧cur[l.off+(s.2.1+j)]? = some x:=fun j x hx=>by
   have hlt:=getElem?_lt hx
   simp only[ns]at hx
   rw[List.getElem?_take,if_pos (by omega),List.getElem?_drop,Array.getElem?_toList,show l.off+s.2.1+j=l.off+(s.2.1+j) by omega]at hx
   exact⟨by omega,hx⟩
  refine⟨ns,hrel,hlen,fun x hx=> ?_,_,cap,rfl,hc,.inr ⟨A,rfl,fun j x hx=> ?_⟩⟩
  ·obtain⟨i,hi⟩:=List.mem_iff_getElem?.1 hx
   obtain⟨h1,h2⟩:=hnx i x hi
   obtain⟨y,h3,_,h4⟩:=hcell (s.2.1+i) _ (List.getElem?_eq_getElem (by omega))
   rw[h2]at h3;cases h3;exact h4
  ·obtain⟨h1,h2⟩:=hnx j x hx
   rcases ha with ha|⟨rfl,_⟩
   ·have:s.2.2.1=0:=by omega
    rw[this]at h1;simp at h1
   ·rw[add_none,show l.off+s.2.1+j=l.off+(s.2.1+j) by omega]
    simp[World.cell?,hh,h2]
theorem Cont.src {sz n:Nat} {r:List GV} {ns:List Value} (h:Cont ρ w sz n r V ns) {T E:TypeId} (hu:P.underlying T=some (.slice E)):Src P sz T V n ns w:=by
 obtain⟨base,cap,rfl,_,hh⟩:=h.val
 have hone:∀x∈ns,x.oneCell'=true:=fun x hx=>one_oneCell (h.one x hx)
 rcases hh with⟨rfl,rfl,rfl⟩|⟨A,rfl,hc⟩
 ·have:ns=[]:=List.eq_nil_of_length_eq_zero (by have:=h.len;simpa using this)
  subst this
  exact Src.ofNil w hu 0
 ·exact Src.ofSlice w hu A n cap ns h.len hc hone
theorem Cont.old {sz n:Nat} {r:List GV} {ns:List Value} (h:Cont ρ w sz n r V ns):(Builtin.firstCells sz n V).run P w.drew = .ok ns.toArray w.drew:=by
 obtain⟨base,cap,rfl,_,hh⟩:=h.val
 rcases hh with⟨rfl,rfl,rfl⟩|⟨A,rfl,hc⟩
 ·have:ns=[]:=List.eq_nil_of_length_eq_zero (by have:=h.len;simpa using this)
  subst this
  exact run_firstCells_none w.drew sz 0 0 0
 ·exact run_firstCells_some w.drew sz n A n cap ns h.len hc
theorem Rel.alloc' (R:Rel w0 ρ H w) {cs:List GV} {a:Array Value} (T:TypeId) (hl:cs.length<=a.size) (hr:∀(i:Nat) g,cs[i]? = some g->∃x,a[i]? = some x∧Rl ρ g x∧one x=true):
  ∃ρ',ρ.le ρ'∧ρ'=ρ.upd H.n ⟨w.heap.size,0,a.size,.cells a T,.cells cs⟩∧Rel w0 ρ' (H.new (.cells cs)) (w.alloc (.cells a T)):=by
 have e:Ext w (w.alloc (.cells a T)):=(Below.refl _ _).alloc (Nat.le_refl _) _
 have h:=R.new (o:= .cells cs) (l:=⟨w.heap.size,0,a.size,.cells a T,.cells cs⟩) (R.ext.trans e) (fun h o' l' hg hl=>by
  obtain⟨l,hl',_,ho⟩:=R.live h o' hg
  rw[hl]at hl';cases hl'
  exact⟨e.block _ ho.lt,Nat.ne_of_lt ho.lt⟩) (.inl R.ext.size) (by
  refine⟨a,T,heap_alloc_new w _,rfl,by simpa using hl,fun i g hg=> ?_⟩
  obtain⟨x,hx,hrx,h1⟩:=hr i g hg
  exact⟨x,by simpa using hx,hrx.le (Rho.le_upd (R.fresh _ (Nat.le_refl _))),h1⟩) (heap_alloc_new w _)
 exact⟨_,h.1,rfl,h.2⟩
theorem content_sl {sz:Nat} {p:Nat×List GV} {s:Nat×Nat×Nat×Nat} (h:content H sz v=some p) (hs:v.asS=some s):s.2.2.2=sz∧∃cs,H.cells s.1=some cs∧s.2.1+s.2.2.1*sz<=cs.length∧p.1=s.2.2.1:=by
 unfold content at h
 have hnz:v.isSnil=false:=by rw[asS_eq hs];rfl
 rw[hnz]at h
 obtain⟨s',hs',h⟩:=ob_some.1 (show ob v.asS _=some p from h)
 rw[hs]at hs';cases hs'
 obtain⟨hsz,h⟩:=bif_some.1 h
 obtain⟨cs,hcs,h⟩:=ob_some.1 h
 obtain⟨r,hr,h⟩:=ob_some.1 h
 cases h
 exact⟨Nat.eq_of_beq_eq_true hsz,cs,hcs,(slc_eq hr).1,rfl⟩
theorem app_place (R:Rel w0 ρ H w) {hh off k sz m cap:Nat} {l:Loc} {cs p2 q2:List GV} {ns1 ns2:List Value} (hcs:H.cells hh=some cs) (hl:ρ hh=some l) (c1:Cont ρ w sz k p2 (.slice (some ⟨l.b,l.off+off,none⟩) k cap) ns1)
  (r2:RlL ρ q2 ns2) (l2:ns2.length=m*sz) (o2:∀x∈ns2,one x=true) (hroom:k+m<=cap) (hbound:l.off+off+cap*sz<=l.size):
  ∃cur T',w.heap[l.b]? = some (.cells cur T' (0,0))∧l.off+off+cap*sz<=cur.size∧ρ.le (ρ.upd H.n ⟨l.b,l.off+off,l.size,(.cells (cur.toList.take (l.off+off+k*sz)++ns2++cur.toList.drop (l.off+off+k*sz+ns2.length)).toArray T'),.cells (p2++q2)⟩)∧
   Rel w0 (ρ.upd H.n ⟨l.b,l.off+off,l.size,(.cells (cur.toList.take (l.off+off+k*sz)++ns2++cur.toList.drop (l.off+off+k*sz+ns2.length)).toArray T'),.cells (p2++q2)⟩) ((H.del hh).new (.cells (p2++q2))) (w.setRow l.b (cur.toList.take (l.off+off+k*sz)++ns2++cur.toList.drop (l.off+off+k*sz+ns2.length)).toArray):=by
 obtain⟨cur,T',hb,hsize,hfit,hcell⟩:=R.cells hcs hl
 have hmul:k*sz+m*sz<=cap*sz:=by rw[<-Nat.add_mul];exact Nat.mul_le_mul_right _ hroom
 have hcl:cur.toList.length=cur.size:=by simp
 obtain⟨l0,hl0,hbase0,_⟩:=R.live _ _ (GH.cells_eq.1 hcs)
 rw[hl]at hl0;cases hl0
 have l1:=c1.len
 have e1:p2.length=k*sz:=by rw[c1.rel.len];exact l1
 have e2:q2.length=m*sz:=by rw[r2.len];exact l2
 have hnew:=(R.del hh).new (o:= .cells (p2++q2)) (l:=⟨l.b,l.off+off,l.size,(.cells (cur.toList.take (l.off+off+k*sz)++ns2++cur.toList.drop (l.off+off+k*sz+ns2.length)).toArray T'),.cells (p2++q2)⟩)
  (w':=w.setRow l.b (cur.toList.take (l.off+off+k*sz)++ns2++cur.toList.drop (l.off+off+k*sz+ns2.length)).toArray)
  ⟨R.ext.os,R.ext.tape,R.ext.output,by simpa using R.ext.size,fun k hk hO=>by
   rw[setRow_other w l.b k _ (fun e=>by subst e;rcases hbase0 with hbase|hbase;exact absurd hbase (by omega);exact hO hbase)];exact R.ext.block k hk hO⟩
  (fun h o' l' hg hl'=>by
   rw[GH.get_del]at hg
   by_cases e:h=hh
   ·rw[if_pos e]at hg;cases hg
   ·rw[if_neg e]at hg
    have hne:l'.b≠l.b:=fun e'=>e (R.inj h hh o' _ l' l hg (GH.cells_eq.1 hcs) hl' hl e')
    exact⟨setRow_other w l.b l'.b _ hne,hne⟩) hbase0 (by
   refine⟨_,T',setRow_heap w l.b _ _ T' _ hb,?_,?_,fun i x hx=> ?_⟩
   ·simp;omega
   ·show l.off+off+(p2++q2).length<=l.size
    rw[List.length_append,e1,e2];omega
   ·have hle0:ρ.le (ρ.upd (H.del hh).n ⟨l.b,l.off+off,l.size,(.cells (cur.toList.take (l.off+off+k*sz)++ns2++cur.toList.drop (l.off+off+k*sz+ns2.length)).toArray T'),.cells (p2++q2)⟩):=Rho.le_upd (R.fresh _ (Nat.le_refl _))
    have hil:=getElem?_lt hx
    rw[List.length_append,e1,e2]at hil
    obtain⟨y,hy,hr⟩:=(c1.rel.append r2).get hx
    refine⟨y,?_,hr.le hle0,?_⟩
    ·show(cur.toList.take (l.off+off+k*sz)++ns2++cur.toList.drop (l.off+off+k*sz+ns2.length)).toArray[l.off+off+i]? = some y
     rw[List.getElem?_toArray,List.append_assoc]
     by_cases hi:i<k*sz
     ·rw[List.getElem?_append_left (by simp;omega),List.getElem?_take,if_pos (by omega),Array.getElem?_toList]
      rw[List.getElem?_append_left (by omega)]at hy
      obtain⟨base',cap2,hV2,_,hh2⟩:=c1.val
      cases hV2
      rcases hh2 with⟨h1,_⟩|⟨A,hA,hAc⟩
      ·cases h1
      ·cases hA
       have:=hAc i y hy
       rw[add_none]at this
       simpa [World.cell?,hb]using this
     ·rw[List.getElem?_append_right (by simp;omega),List.length_take,show min (l.off+off+k*sz) cur.toList.length=l.off+off+k*sz by omega]
      rw[List.getElem?_append_right (by omega),l1]at hy
      rw[List.getElem?_append_left (by omega)]
      rw[<-hy];congr 1;omega
    ·rcases List.mem_append.1 (List.mem_of_getElem? hy)with hm|hm
     ·exact c1.one y hm
     ·exact o2 y hm) (setRow_heap w l.b _ _ T' _ hb)
 exact⟨cur,T',hb,by omega,hnew.1,hnew.2⟩
theorem vApp_ok (hG:TabOk P tb) {T T' ty:TypeId} (R:Rel w0 ρ H w) (hv:Rl ρ v V) (hu:Rl ρ u U) (h:vApp tb T T' v u H=some (g,H')):Does P w0 ρ (Builtin.append_ #[T,T'] ty #[V,U]) w g H':=by
 unfold vApp at h
 replace h:=bif_some.1 h
 have hTT:T=T':=Nat.eq_of_beq_eq_true h.1
 subst hTT
 replace h:=h.2
 obtain⟨te,hte,h⟩:=ob_some.1 h
 obtain⟨h0,h⟩:=bif_some'.1 h
 obtain⟨zc,hz,h⟩:=ob_some.1 h
 obtain⟨hzl,h⟩:=bif_some.1 h
 obtain⟨p,hp,h⟩:=ob_some.1 h
 obtain⟨q,hq,h⟩:=ob_some.1 h
 obtain⟨⟨d,hd,hde⟩,hE,htab⟩:=elemOf_ok hG hte
 obtain⟨dz,hdz,_,hC⟩:=zeroOf_ok (ρ:=ρ) hG hz
 rw[htab]at hdz;cases hdz
 have hzl:zc.length=te.2.size:=Nat.eq_of_beq_eq_true hzl
 have hzs:te.2.zero.cells.size=te.2.size:=by have:=hC.r.len;simp at this;omega
 have h0:te.2.size≠0:=fun e=>by rw[e]at h0;cases h0
 obtain⟨ns1,c1⟩:=content_ok R hv hp
 obtain⟨ns2,c2⟩:=content_ok R hu hq
 have hund:=hd.und
 rw[hde]at hund
 have src:=c2.src (P:=P) (T:=T) hund
 obtain⟨base,cap,hV,hcap,hbase⟩:=c1.val
 cases hq1:q.1 with
 |zero=>
  rw[hq1]at h
  cases h
  rw[hq1]at src
  have hns:ns2=[]:=List.eq_nil_of_length_eq_zero (by have:=c2.len;rw[hq1]at this;simpa using this)
  subst hns
  refine⟨V,w,ρ,?_,Rho.le_refl _,R,hv⟩
  have hru:=hd.run_und w
  rw[hde]at hru
  have hlen:=src.len w
  have hcl:=src.cells
  subst hV
  cases base with
  |none=>simp[Builtin.append_,hru,hE.run_size w,hlen,hcl,hcap]
  |some A=>simp[Builtin.append_,hru,hE.run_size w,hlen,hcl,hcap,storeCells]
 | succ m =>
  rw[hq1]at h
  simp only[sn_eq]at h
  obtain⟨hbig,h⟩:=bif_some.1 h
  rw[lap_eq,delSK_eq,GH.newK_eq]at h
  cases h
  have hbig:(p.1+q.1)*(te.2.bytes+1)<16777216:=by rw[hq1];simpa [Nat.blt_eq]using hbig
  have hb1:(p.1+q.1)*te.2.bytes+(p.1+q.1)<16777216:=by rw[Nat.mul_add,Nat.mul_one]at hbig;exact hbig
  have hq1':Nat.add p.1 (m+1)=p.1+q.1:=by rw[hq1];rfl
  have hrell:RlL ρ (p.2++q.2) (ns1++ns2):=c1.rel.append c2.rel
  have hlen12:(p.2++q.2).length=(p.1+q.1)*te.2.size:=by
   rw[hrell.len,List.length_append,c1.len,c2.len,<-Nat.add_mul]
  have hone12:∀x∈ns1++ns2,one x=true:=fun x hx=>by
   rcases List.mem_append.1 hx with hx|hx
   ·exact c1.one x hx
   ·exact c2.one x hx
  by_cases hroom:p.1+q.1<=cap
  ·
   have hvs:∃s,v.asS=some s:=by
    cases hzz:v.isSnil with
    |true=>
     rw[isSnil_eq hzz]at hv
     have:=hv.snil_inv
     rw[hV]at this
     injection this with _ _ e3
     omega
    |false=>
     unfold content at hp
     rw[hzz]at hp
     obtain⟨s,hs,_⟩:=ob_some.1 (show ob v.asS _=some p from hp)
     exact⟨s,hs⟩
   obtain⟨s,hs⟩:=hvs
   obtain⟨hsz,cs,hcs,hbb,hp1⟩:=content_sl hp hs
   rw[asS_eq hs]at hv
   obtain⟨l,cap',A,hl,hV',hc,ha⟩:=hv.sl_inv
   rw[hV]at hV'
   injection hV' with e1 e2 e3
   subst e1 e3
   rcases ha with ha|⟨rfl,hbound⟩
   ·omega
   rw[hsz]at hbound
   have c1':=c1
   rw[hV]at c1'
   obtain⟨cur,T',hh,hcs2,hle,R'⟩:=app_place R hcs hl c1' c2.rel c2.len c2.one hroom hbound
   have hr:=run_room (P:=P) (ty:=ty) hd hde hE hh src hroom hcs2
   have hdel:delS H v=H.del s.1:=by unfold delS;rw[hs]
   rw[hdel,hV]
   refine⟨_,_,_,hr,hle,R',?_⟩
   rw[hq1']
   exact .sl (l:=⟨l.b,l.off+s.2.1,l.size,_,_⟩) (by show(if H.n=H.n then _ else _)=_;exact if_pos rfl) hroom (.inr ⟨rfl,by show l.off+s.2.1+0+cap*te.2.size<=l.size;omega⟩)
  ·
   have hR':Rel w0 ρ (delS H v) w.drew:=by
    have:Rel w0 ρ (delS H v) w:=by
     unfold delS
     cases v.asS with
     |none=>exact R
     |some s=>exact R.del s.1
    exact this.ext' ((Below.refl _ _).drew)
   have hr:=run_grow (P:=P) (ty:=ty) hd hde hE (base:=base) (by rw[<-hV];exact c1.old) src (by omega) (by omega) (by omega)
   have hge:=grownCap_ge w (p.1+q.1) cap te.1
   have hn1:(ns1++ns2).length=(p.1+q.1)*te.2.size:=by rw[<-hrell.len];exact hlen12
   obtain⟨ρ',hle,rfl,R'⟩:=hR'.alloc' (cs:=p.2++q.2) (a:=(ns1++ns2).toArray++Builtin.zeroCells te.2.zero.cells (grownCap w (p.1+q.1) cap te.1 - (p.1+q.1))) te.1 (by simp only[Array.size_append,List.size_toArray];omega) (fun i x hx=>by
    obtain⟨y,hy,hr⟩:=hrell.get hx
    exact⟨y,by rw[Array.getElem?_append_left (by simpa using getElem?_lt hy)];simpa using hy,hr,hone12 y (List.mem_of_getElem? hy)⟩)
   rw[hV]
   refine⟨_,_,_,hr,hle,R',?_⟩
   rw[hq1']
   refine .sl (l:=⟨w.heap.size,0,((ns1++ns2).toArray++Builtin.zeroCells te.2.zero.cells (grownCap w (p.1+q.1) cap te.1 - (p.1+q.1))).size,.cells ((ns1++ns2).toArray++Builtin.zeroCells te.2.zero.cells (grownCap w (p.1+q.1) cap te.1 - (p.1+q.1))) te.1,.cells (p.2++q.2)⟩) (by simp[Rho.upd]) hge (.inr ⟨rfl,?_⟩)
   simp only[Array.size_append,List.size_toArray,size_zeroCells,hzs,hn1]
   have:grownCap w (p.1+q.1) cap te.1*te.2.size=(p.1+q.1)*te.2.size+(grownCap w (p.1+q.1) cap te.1 - (p.1+q.1))*te.2.size:=by
    rw[<-Nat.add_mul];congr 1;omega
   omega
end
end Go.Gx
end
section
namespace Go.Gx
open Go Go.Sx Go.RowKit
section
variable {P:Program} {tb:TB} {ρ:Rho} {V U W X:Value} {v u t g:GV} {gs:Gls} {w0:Base gs} {w:World} {H H':GH}
theorem vMakeMap_ok {T:TypeId} (R:Rel w0 ρ H w) (h:vMakeMap H=some (g,H')):Does P w0 ρ (Instr.makeMap T none) w g H':=by
 unfold vMakeMap at h
 rw[GH.newK_eq]at h;cases h
 have e:Ext w (w.alloc (.map #[] 0)):=(Below.refl _ _).alloc (Nat.le_refl _) _
 have hn:=R.new (o:= .mp []) (l:=⟨w.heap.size,0,0,.map #[] 0,.mp []⟩) (R.ext.trans e) (fun h o' l' hg hl=>by
  obtain⟨l,hl',_,ho⟩:=R.live h o' hg
  rw[hl]at hl';cases hl'
  exact⟨e.block _ ho.lt,Nat.ne_of_lt ho.lt⟩) (.inl R.ext.size) ⟨#[],0,heap_alloc_new w _,rfl,fun i x hx=>by simp at hx⟩ (heap_alloc_new w _)
 refine⟨_,_,_,?_,hn.1,hn.2,.map (l:=⟨w.heap.size,0,0,.map #[] 0,.mp []⟩) (by simp[Rho.upd])⟩
 simp[Instr.makeMap]
theorem eqS_eq (s r:ByteArray):eqS (encB (bytesOfV s),(bytesOfV s).length) (encB (bytesOfV r),(bytesOfV r).length)=(s.toList==r.toList):=by
 rw[Lib.toList_data,Lib.toList_data]
 unfold eqS
 by_cases hl:(bytesOfV s).length=(bytesOfV r).length
 ·have hb:Nat.beq (bytesOfV r).length (bytesOfV r).length=true:=by simp
  rw[hl,hb,cond_true]
  by_cases he:encB (bytesOfV s)=encB (bytesOfV r)
  ·have:=encB_inj hl he
   unfold bytesOfV at this
   rw[he,this];simp
  ·rw[beq_ne he]
   symm
   rw[beq_eq_false_iff_ne]
   intro hh;exact he (by unfold bytesOfV;rw[hh])
 ·rw[beq_ne hl,cond_false]
  symm
  rw[beq_eq_false_iff_ne]
  intro hh;exact hl (by unfold bytesOfV;rw[hh])
theorem sameNow_ok {t:Ty} {a b:GV} {A B:Value} {c:Bool} (hk:keyOk t a=true) (ha:Rl ρ a A) (hb:Rl ρ b B) (h:keyEq a b=some c):Instr.sameNow t.desc A B=some c:=by
 unfold keyEq at h
 unfold keyOk at hk
 cases hi:a.asI with
 | some x =>
  rw[hi]at h hk
  obtain⟨y,hy,h⟩:=ob_some.1 (show ob b.asI _=some c from h)
  obtain⟨he,h⟩:=bif_some.1 h
  cases h
  rw[asI_eq hi]at ha
  rw[asI_eq hy]at hb
  rw[ha.int_inv,hb.int_inv]
  cases hd:tdI t.desc with
  |none=>simp only[hd]at hk;cases hk
  |some k=>
   rw[tdI_eq hd]
   have:=eqK_eq he
   simp only[Instr.sameNow,this,if_true,eqI_eq]
   congr 1
 |none=>
  rw[hi]at h hk
  obtain⟨x,hx,h⟩:=ob_some.1 (show ob a.asStr _=some c from h)
  obtain⟨y,hy,h⟩:=ob_some.1 h
  cases h
  rw[hx]at hk
  rw[asStr_eq hx]at ha
  rw[asStr_eq hy]at hb
  obtain⟨s,rfl,e1,e2⟩:=ha.str_inv
  obtain⟨r,rfl,e3,e4⟩:=hb.str_inv
  rw[tdStr_eq hk]
  show some (s==r)=_
  rw[beq_toListBytes,<-eqS_eq]
  cases x;cases y;simp only at e1 e2 e3 e4;rw[e1,e2,e3,e4]
theorem mfind_ok {t:Ty} {k:GV} {K:Value} (hk:keyOk t k=true) (hK:Rl ρ k K):∀{es:List (GV×GV)} {en:List MapEntry} {r:Option GV} (i:Nat),en.length=es.length->(∀(i:Nat) e,es[i]? = some e->∃m,en[i]? = some m∧Rl ρ e.1 m.key∧Rl ρ e.2 m.val)->mfind k es=some r->
  (r=none∧Instr.findNow t.desc K en i=some none)∨∃g j x,r=some g∧Rl ρ g x∧Instr.findNow t.desc K en i=some (some (j,x))
 | [],en,r,i,hl,_,h=>by
  cases h
  have:en=[]:=List.eq_nil_of_length_eq_zero (by simpa using hl)
  subst this;exact .inl ⟨rfl,rfl⟩
 | e :: es, en, r, i, hl, hr, h => by
  obtain⟨b,hb,h⟩:=ob_some.1 (show ob (keyEq k e.1) (fun b=>bif b then some (some e.2)else mfind k es)=some r from h)
  cases en with
  |nil=>simp at hl
  | cons m en =>
   obtain⟨m',hm,h1,h2⟩:=hr 0 e rfl
   simp at hm;subst hm
   have hs:=sameNow_ok hk hK h1 hb
   cases b with
   |true=>
    cases h
    exact .inr ⟨e.2,i,m.val,rfl,h2,by simp[Instr.findNow,hs]⟩
   |false=>
    have:=mfind_ok (r:=r) hk hK (i+1) (by simpa using hl) (fun i e' he=>by have:=hr (i+1) e' (by simpa using he);simpa using this) (show mfind k es=some r from h)
    simpa [Instr.findNow,hs]using this
theorem mapOf_ok (hG:TabOk P tb) {T:TypeId} {t:Ty×Ty} (h:mapOf tb T=some t):∃d k e,TyOk P T d∧d.desc = .map k e∧TyOk P k t.1∧TyOk P e t.2:=by
 obtain⟨d,hd,h⟩:=ob_some.1 (show ob (tb T) _=some t from h)
 obtain⟨kv,hkv,h⟩:=ob_some.1 h
 obtain⟨tk,htk,h⟩:=ob_some.1 h
 obtain⟨tv,htv,h⟩:=ob_some.1 h
 cases h
 exact⟨d,kv.1,kv.2,hG.tab hd,tdM_eq hkv,hG.tab htk,hG.tab htv⟩
theorem run_checkKey {K:TypeId} {t:Ty} {b:Bool} (hT:TyOk P K t) (hk:keyOk t u=true) (hu:Rl ρ u U) (w:World):(Instr.checkKey b 10000 K U).run P w = .ok () w:=by
 have hund:=hT.run_und w
 unfold keyOk at hk
 have key:∀n:Nat,(Instr.checkKey b (n+1) K U).run P w = .ok () w:=fun n=>by
  unfold Instr.checkKey
  cases hi:u.asI with
  |some x=>
   rw[hi]at hk
   rw[asI_eq hi]at hu
   rw[hu.int_inv]
   cases hd:tdI t.desc with
   |none=>simp only[hd]at hk;cases hk
   |some k=>rw[tdI_eq hd]at hund;simp[hund]
  | none =>
   rw[hi]at hk
   cases hs:u.asStr with
   |none=>simp only[hs]at hk;cases hk
   |some x=>
    simp only[hs]at hk
    rw[asStr_eq hs]at hu
    obtain⟨s,rfl,_,_⟩:=hu.str_inv
    rw[tdStr_eq hk]at hund
    simp[hund]
 exact key 9999
theorem Rel.map (R:Rel w0 ρ H w) {h:Nat} {es:List (GV×GV)} (hc:H.get h=some (.mp es)) {l:Loc} (hl:ρ h=some l):ObjOk ρ w l (.mp es)∧w0.mine l.b:=by
 obtain⟨l',hl',hb,ho⟩:=R.live h _ hc
 rw[hl]at hl';cases hl';exact⟨ho,hb⟩
theorem vLook_ok (hG:TabOk P tb) {T:TypeId} {ok:Bool} (R:Rel w0 ρ H w) (hv:Rl ρ v V) (hu:Rl ρ u U) (h:vLook tb T ok v u H=some g):∃x,Rl ρ g x∧(Instr.lookup T V U ok).run P w = .ok x w:=by
 obtain⟨m,hm,h⟩:=ob_some.1 (show ob v.asM _=some g from h)
 obtain⟨o,ho,h⟩:=ob_some.1 h
 obtain⟨es,hes,h⟩:=ob_some.1 h
 obtain⟨t,ht,h⟩:=ob_some.1 h
 obtain⟨hk,h⟩:=bif_some.1 h
 obtain⟨r,hr,h⟩:=ob_some.1 h
 obtain⟨z,hz,h⟩:=ob_some.1 h
 rw[asM_eq hm]at hv
 obtain⟨l,hl,rfl⟩:=hv.map_inv
 rw[GO.asM_eq hes]at ho
 obtain⟨⟨en,cl,hb,hlen,hent⟩,_⟩:=R.map ho hl
 obtain⟨d,k,e,hd,hde,hK,hE⟩:=mapOf_ok hG ht
 have hund:=hd.run_und w
 rw[hde]at hund
 have hck:=run_checkKey (P:=P) (b:=en.isEmpty) hK hk hu w
 have hget:(getObj l.b).run P w = .ok (.map en cl) w:=by simp[getObj,Sem.run,hb]
 have hkund:=hK.run_und w
 have hf:=mfind_ok hk hu (en:=en.toList) (r:=r) 0 (by simpa using hlen) (fun i e' he=>by
  obtain⟨m',h1,h2⟩:=hent i e' he
  exact⟨m',by rw[Array.getElem?_toList];exact h1,h2⟩) hr
 have hz':=ofV_ok (ρ:=ρ) hz
 rcases hf with⟨rfl,hf⟩|⟨g',j,x,rfl,hx,hf⟩
 ·cases ok with
  |false=>cases h;exact⟨_,hz',by simp[Instr.lookup,hund,hget,hck,Instr.findKey,hkund,hf,hE.run_zero w]⟩
  |true=>cases h;exact⟨.tuple #[t.2.zero,.bool false],Rl.tup' (.cons hz' (.cons (.bool _) .nil)),by simp[Instr.lookup,hund,hget,hck,Instr.findKey,hkund,hf,hE.run_zero w]⟩
 ·cases ok with
  |false=>cases h;exact⟨x,hx,by simp[Instr.lookup,hund,hget,hck,Instr.findKey,hkund,hf]⟩
  |true=>cases h;exact⟨.tuple #[x,.bool true],Rl.tup' (.cons hx (.cons (.bool _) .nil)),by simp[Instr.lookup,hund,hget,hck,Instr.findKey,hkund,hf]⟩
theorem vMapUp_ok (hG:TabOk P tb) {T:TypeId} (R:Rel w0 ρ H w) (hv:Rl ρ v V) (hu:Rl ρ u U) (hx:Rl ρ t X) (h:vMapUp tb T v u t H=some (g,H')):g = .un∧∃w' ρ',(Instr.mapUpdate T V U X).run P w = .ok () w'∧ρ.le ρ'∧Rel w0 ρ' H' w':=by
 obtain⟨m,hm,h⟩:=ob_some.1 (show ob v.asM _=some (g,H')from h)
 obtain⟨o,ho,h⟩:=ob_some.1 h
 obtain⟨es,hes,h⟩:=ob_some.1 h
 obtain⟨ty,ht,h⟩:=ob_some.1 h
 obtain⟨hk,h⟩:=bif_some.1 h
 obtain⟨r,hr,h⟩:=ob_some.1 h
 rw[asM_eq hm]at hv
 obtain⟨l,hl,rfl⟩:=hv.map_inv
 rw[GO.asM_eq hes]at ho
 obtain⟨⟨en,cl,hb,hlen,hent⟩,hbase⟩:=R.map ho hl
 obtain⟨d,k,e,hd,hde,hK,hE⟩:=mapOf_ok hG ht
 have hund:=hd.run_und w
 rw[hde]at hund
 have hck:=run_checkKey (P:=P) (b:=false) hK hk hu w
 have hget:(getObj l.b).run P w = .ok (.map en cl) w:=by simp[getObj,Sem.run,hb]
 have hkund:=hK.run_und w
 have hf:=mfind_ok hk hu (en:=en.toList) (r:=r) 0 (by simpa using hlen) (fun i e' he=>by
  obtain⟨m',h1,h2⟩:=hent i e' he
  exact⟨m',by rw[Array.getElem?_toList];exact h1,h2⟩) hr
 rcases hf with⟨rfl,hf⟩|⟨g',j,x,rfl,hx',hf⟩
 ·simp only[GH.setK_eq]at h
  cases h
  refine⟨rfl,{w with heap:=w.heap.setIfInBounds l.b (.map (en.push {key:=U,val:=X,born:=cl}) (cl+1))},_,?_,R.set (X:= .map (en.push {key:=U,val:=X,born:=cl}) (cl+1)) ho hl ?_ ?_ ?_ ?_⟩
  ·simp[Instr.mapUpdate,hund,hget,hck,Instr.findKey,hkund,hf,setObj,Sem.run,hb]
  ·exact⟨R.ext.os,R.ext.tape,R.ext.output,by simpa using R.ext.size,fun i hi hO=>by
    show(w.heap.setIfInBounds l.b _)[i]? = _
    rw[Array.getElem?_setIfInBounds_ne (fun e=>by subst e;rcases hbase with hbase|hbase;exact absurd hbase (by omega);exact hO hbase)];exact R.ext.block i hi hO⟩
  ·intro i hi
   show(w.heap.setIfInBounds l.b _)[i]? = _
   rw[Array.getElem?_setIfInBounds_ne (Ne.symm hi)]
  ·have hlt:l.b<w.heap.size:=(Array.getElem?_eq_some_iff.1 hb).1
   refine⟨en.push {key:=U,val:=X,born:=cl},cl+1,by show(w.heap.setIfInBounds l.b _)[l.b]? = _;rw[Array.getElem?_setIfInBounds_self_of_lt hlt],by simp[hlen],fun i e' he=> ?_⟩
   by_cases hi:i<es.length
   ·rw[List.getElem?_append_left hi]at he
    obtain⟨m',h1,h2⟩:=hent i e' he
    exact⟨m',by rw[Array.getElem?_push,if_neg (by omega)];exact h1,h2⟩
   ·rw[List.getElem?_append_right (by omega)]at he
    have:i=es.length:=by
     have:=getElem?_lt he
     simp at this;omega
    subst this
    simp at he;subst he
    exact⟨⟨U,X,cl⟩,by rw[Array.getElem?_push,if_pos (by omega)],hu,hx⟩
  ·have hlt:l.b<w.heap.size:=(Array.getElem?_eq_some_iff.1 hb).1
   show(w.heap.setIfInBounds l.b _)[l.b]? = _
   rw[Array.getElem?_setIfInBounds_self_of_lt hlt]
 ·cases h
end
end Go.Gx
end
section
namespace Go.Gx
open Go Go.Sx Go.RowKit
section
variable {P:Program} {tb:TB} {ρ:Rho} {gs:Gls} {w0:Base gs} {w:World} {H H':GH} {n:Nat} {σ:GF} {a:Act} {R:Type}
def CallSem (P:Program) {gs:Gls} (w0:Base gs) (ρ:Rho) (f:Nat) (vs:List Value) (w:World) (g:GV) (H':GH):Prop:=
 (∃v w' ρ',(callFunc f vs.toArray).run P w = .ok (.value v) w'∧ρ.le ρ'∧Rel w0 ρ' H' w'∧Rl ρ' g v)∨
 ((callFunc f vs.toArray).run P w = .ok (.enter f vs.toArray) w∧Calls P f vs.toArray w fun e w'=>∃v ρ',e = .returned v∧ρ.le ρ'∧Rel w0 ρ' H' w'∧Rl ρ' g v)
def CallOk (P:Program) {gs:Gls} (w0:Base gs) (ih:CH):Prop:=∀f us H g H',ih f us H=some (g,H')->∀ρ w vs,Rel w0 ρ H w->RlL ρ us vs->CallSem P w0 ρ f vs w g H'
def OpSem (P:Program) {gs:Gls} (w0:Base gs) (ρ:Rho) (σ:GF) (a:Act) (w:World) (o:Oper) (g:GV) (H H':GH):Prop:=
 (loudOp o.op=false∧isLoad o.op=false∧isLook o.op=false∧H'=H∧∃v,Rl ρ g v∧∀w,(execOp a.eval o).run P w = .ok (.value v) w)∨
 (loudOp o.op=false∧isLoad o.op=true∧H'=H∧∃v h l,ldH σ o.op=some h∧ρ h=some l∧(∃x,H.get h=some x)∧Rl ρ g v∧∀w',w'.heap[l.b]? = w.heap[l.b]? -> (execOp a.eval o).run P w' = .ok (.value v) w')∨
 (loudOp o.op=false∧isLook o.op=true∧H'=H∧∃v,Rl ρ g v∧(execOp a.eval o).run P w = .ok (.value v) w)∨
 (loudOp o.op=true∧∀K:Act->World->Prop,(∀ρ' w' v,ρ.le ρ'->Rel w0 ρ' H' w'->Rl ρ' g v->K (a.put o.dst v) w')->o.wp P a w K NoQ)
theorem OpSem.comp {o:Oper} {g:GV} {s:Sem Value} (hl:loudOp o.op=false) (h:Comp P ρ s g) (he:∀w v,s.run P w = .ok v w->(execOp a.eval o).run P w = .ok (.value v) w) (h1:isLoad o.op=false:=by rfl) (h2:isLook o.op=false:=by rfl):OpSem P w0 ρ σ a w o g H H:=
 let ⟨v,hv,hr⟩:=h;.inl ⟨hl,h1,h2,rfl,v,hv,fun w=>he w v (hr w)⟩
theorem OpSem.read {o:Oper} {g:GV} {s:Sem Value} (hl:loudOp o.op=false) (hr:isLook o.op=true) (h:∃x,Rl ρ g x∧s.run P w = .ok x w) (he:∀v,s.run P w = .ok v w->(execOp a.eval o).run P w = .ok (.value v) w):OpSem P w0 ρ σ a w o g H H:=
 let ⟨v,hv,hr'⟩:=h;.inr (.inr (.inl ⟨hl,hr,rfl,v,hv,he v hr'⟩))
theorem OpSem.does {o:Oper} {g:GV} {s:Sem Value} (hl:loudOp o.op=true) (h:Does P w0 ρ s w g H') (he:∀v w',s.run P w = .ok v w'->(execOp a.eval o).run P w = .ok (.value v) w'):OpSem P w0 ρ σ a w o g H H':=by
 obtain⟨v,w',ρ',hr,hle,R',hv⟩:=h
 refine .inr (.inr (.inr ⟨hl,fun K hK=> ?_⟩))
 simp only[Oper.wp,he v w' hr,Oper.upon]
 exact hK ρ' w' v hle R' hv
theorem OpSem.act {o:Oper} {g:GV} {s:Sem Unit} (hl:loudOp o.op=true) (h:g = .un∧∃w' ρ',s.run P w = .ok () w'∧ρ.le ρ'∧Rel w0 ρ' H' w') (he:∀w',s.run P w = .ok () w'->(execOp a.eval o).run P w = .ok .skip w'):OpSem P w0 ρ σ a w o g H H':=by
 obtain⟨rfl,w',ρ',hr,hle,R'⟩:=h
 refine .inr (.inr (.inr ⟨hl,fun K hK=> ?_⟩))
 simp only[Oper.wp,he w' hr,Oper.upon]
 exact hK ρ' w' undef hle R' .un
theorem gevo_ok (F:FrOk ρ n σ a) {o:Option Operand} {g:Option GV} (h:gevo σ o=some g):RlO ρ g (o.map a.eval):=by
 cases o with
 |none=>cases h;exact .inl ⟨rfl,rfl⟩
 |some x=>
  obtain⟨v,hv,h⟩:=ob_some.1 (show ob (gev σ x) _=some g from h)
  cases h;exact .inr ⟨v,_,rfl,rfl,gev_ok F hv⟩
theorem toList2 {α:Type} {xs:Array α} {x y:α} (h:xs.toList=[x,y]):xs = #[x,y]:=by
 cases xs;simp at h;rw[h]
theorem toList1 {α:Type} {xs:Array α} {x:α} (h:xs.toList=[x]):xs = #[x]:=by
 cases xs;simp at h;rw[h]
theorem kArg1_some {f:Operand->KT R} {k:GV->GH->Option R} {r:R}:∀{xs:List Operand},kArg1 xs f σ H k=some r->∃x,xs=[x]∧f x σ H k=some r
 | [],h=>by cases h
 | [x],h=>⟨x,rfl,h⟩
 |_::_::_,h=>by cases h
theorem kArg2_some {f:Operand->Operand->KT R} {k:GV->GH->Option R} {r:R}:∀{xs:List Operand},kArg2 xs f σ H k=some r->∃x y,xs=[x,y]∧f x y σ H k=some r
 | [],h=>by cases h
 | [_],h=>by cases h
 | [x,y],h=>⟨x,y,rfl,h⟩
 |_::_::_::_,h=>by cases h
theorem kOR_some {o:OR} {k:GV->GH->Option R} {r:R} (h:kOR o k=some r):∃g H',o=some (g,H')∧k g H'=some r:=by
 obtain⟨⟨g,H'⟩,h1,h2⟩:=ob_some.1 (show ob o _=some r from h)
 exact⟨g,H',h1,h2⟩
theorem kBuB_ok (hG:TabOk P tb) (F:FrOk ρ n σ a) (Rr:Rel w0 ρ H w) {b:Builtin} {xs:Array Operand} {ts:Array TypeId} {k:GV->GH->Option R} {r:R} {d:Option Tmp} {ty:TypeId} {pos:String} {aft:Array Edge} {gd:Option (Nat×Bool)} (hlen:ts.size=xs.size)
  (h:kBuB tb xs ts b σ H k=some r):∃g H',k g H'=some r∧OpSem P w0 ρ σ a w ⟨d,.call ⟨.builtin b,xs,ts⟩,ty,pos,aft,gd⟩ g H H':=by
 cases b with
 | len =>
  obtain⟨x,hx,h⟩:=kArg1_some (show kArg1 xs.toList (kLen tb ts.toList) σ H k=some r from h)
  obtain⟨T,hT,h⟩:=ob_some.1 (show ob (nth ts.toList 0) _=some r from h)
  obtain⟨v,hv,h⟩:=ob_some.1 h
  obtain⟨g,hg,hk⟩:=ob_some.1 h
  have ex:=toList1 hx
  subst ex
  have et:ts = #[T]:=by
   rw[nth_eq]at hT
   obtain⟨l⟩:=ts
   match l,hlen with
   | [t],_=>simp at hT;subst hT;rfl
  subst et
  exact⟨g,H,hk,.comp rfl (vLen_ok hG (ty:=ty) (gev_ok F hv) hg) (fun w v hr=>by simp[execOp,resolve,invoke,builtin,hr])⟩
 | max =>
  obtain⟨x,y,hx,h⟩:=kArg2_some (show kArg2 xs.toList (fun x y=>k2 x y vMax) σ H k=some r from h)
  obtain⟨v,hv,h⟩:=ob_some.1 (show ob (gev σ x) _=some r from h)
  obtain⟨u,hu,h⟩:=ob_some.1 h
  obtain⟨g,hg,hk⟩:=ob_some.1 h
  have ex:=toList2 hx
  subst ex
  obtain⟨t1,t2,et⟩:∃t1 t2,ts = #[t1,t2]:=by
   obtain⟨l⟩:=ts
   match l,hlen with
   | [t,t'],_=>exact⟨t,t',rfl⟩
  subst et
  exact⟨g,H,hk,.comp rfl (vMax_ok (t1:=t1) (t2:=t2) (ty:=ty) (gev_ok F hv) (gev_ok F hu) hg) (fun w v hr=>by simp[execOp,resolve,invoke,builtin,hr])⟩
 | min =>
  obtain⟨x,y,hx,h⟩:=kArg2_some (show kArg2 xs.toList (fun x y=>k2 x y vMin) σ H k=some r from h)
  obtain⟨v,hv,h⟩:=ob_some.1 (show ob (gev σ x) _=some r from h)
  obtain⟨u,hu,h⟩:=ob_some.1 h
  obtain⟨g,hg,hk⟩:=ob_some.1 h
  have ex:=toList2 hx
  subst ex
  obtain⟨t1,t2,et⟩:∃t1 t2,ts = #[t1,t2]:=by
   obtain⟨l⟩:=ts
   match l,hlen with
   | [t,t'],_=>exact⟨t,t',rfl⟩
  subst et
  exact⟨g,H,hk,.comp rfl (vMin_ok (t1:=t1) (t2:=t2) (ty:=ty) (gev_ok F hv) (gev_ok F hu) hg) (fun w v hr=>by simp[execOp,resolve,invoke,builtin,hr])⟩
 | append =>
  obtain⟨x,y,hx,h⟩:=kArg2_some (show kArg2 xs.toList (kApp tb ts.toList) σ H k=some r from h)
  obtain⟨T,hT,h⟩:=ob_some.1 (show ob (nth ts.toList 0) _=some r from h)
  obtain⟨T',hT',h⟩:=ob_some.1 h
  obtain⟨v,hv,h⟩:=ob_some.1 h
  obtain⟨u,hu,h⟩:=ob_some.1 h
  obtain⟨g,H',hg,hk⟩:=kOR_some h
  have ex:=toList2 hx
  subst ex
  have et:ts = #[T,T']:=by
   rw[nth_eq]at hT hT'
   obtain⟨l⟩:=ts
   match l,hlen with
   | [t,t'],_=>simp at hT hT';subst hT hT';rfl
  subst et
  exact⟨g,H',hk,.does rfl (vApp_ok hG (ty:=ty) Rr (gev_ok F hv) (gev_ok F hu) hg) (fun v w' hr=>by simp[execOp,resolve,invoke,builtin,hr])⟩
 |_=>cases h
theorem kCallV_ok {ih:CH} (hih:CallOk P w0 ih) (F:FrOk ρ n σ a) (Rr:Rel w0 ρ H w) {f:Operand} {xs:Array Operand} {ts:Array TypeId} {k:GV->GH->Option R} {r:R} {d:Option Tmp} {ty:TypeId} {pos:String} {aft:Array Edge} {gd:Option (Nat×Bool)}
  (h:kCallV ih xs f σ H k=some r):∃g H',k g H'=some r∧OpSem P w0 ρ σ a w ⟨d,.call ⟨.value f,xs,ts⟩,ty,pos,aft,gd⟩ g H H':=by
 obtain⟨v,hv,h⟩:=ob_some.1 (show ob (gev σ f) _=some r from h)
 obtain⟨p,hp,h⟩:=ob_some.1 h
 obtain⟨us,hus,h⟩:=ob_some.1 h
 obtain⟨g,H',hc,h⟩:=kOR_some h
 refine⟨g,H',h,.inr (.inr (.inr ⟨rfl,fun K hK=> ?_⟩))⟩
 have hf:=gev_ok F hv
 rw[asF_eq hp]at hf
 obtain⟨fs,cs,ef,hfs,hcs⟩:=hf.fn_inv
 have harg:=gevs_ok F hus
 have hall:=(hfs.append harg).append hcs
 have hrun:∀nx w',(callFunc p.1 (fs++xs.toList.map a.eval++cs).toArray).run P w = .ok nx w'->(execOp a.eval ⟨d,.call ⟨.value f,xs,ts⟩,ty,pos,aft,gd⟩).run P w = .ok nx w':=fun nx w' hr=>by
  have e1:(fs++xs.toList.map a.eval++cs).toArray=fs.toArray++(xs.map a.eval++cs.toArray):=by
   apply Array.toList_inj.1;simp
  rw[e1]at hr
  simp[execOp,resolve,ef,Deferred.ofValue,invoke,hr]
 rcases hih _ _ _ _ _ hc ρ w _ Rr hall with⟨v',w',ρ',hr,hle,R',hv'⟩|⟨hr,hcalls⟩
 ·simp only[Oper.wp,hrun _ _ hr,Oper.upon]
  exact hK ρ' w' v' hle R' hv'
 ·simp only[Oper.wp,hrun _ _ hr,Oper.upon]
  refine hcalls.mono ?_
  rintro e w' ⟨v',ρ',rfl,hle,R',hv'⟩
  exact hK ρ' w' v' hle R' hv'
def okArgs:Op->Bool
 | .call c=>Nat.beq c.argTypes.size c.args.size
 |_=>true
theorem gop_ok (hG:TabOk P tb) {ih:CH} (hih:CallOk P w0 ih) (F:FrOk ρ n σ a) (Rr:Rel w0 ρ H w) {o:Oper} {k:GV->GH->Option R} {r:R} (hoa:okArgs o.op=true∨∃c f,o.op = .call c∧c.callee = .value f) (h:gop tb ih o.op σ H k=some r):
  ∃g H',k g H'=some r∧OpSem P w0 ρ σ a w o g H H':=by
 obtain⟨d,op,ty,pos,aft,gd⟩:=o
 cases op with
 |move x=>
  obtain⟨v,hv,h⟩:=ob_some.1 (show ob (gev σ x) _=some r from h)
  exact⟨v,H,h,.inl ⟨rfl,rfl,rfl,rfl,_,gev_ok F hv,fun w=>by simp[execOp]⟩⟩
 |assign x=>
  obtain⟨v,hv,h⟩:=ob_some.1 (show ob (gev σ x) _=some r from h)
  exact⟨v,H,h,.inl ⟨rfl,rfl,rfl,rfl,_,gev_ok F hv,fun w=>by simp[execOp]⟩⟩
 |pick c x y=>
  obtain⟨v,hv,h⟩:=ob_some.1 (show ob (gev σ c) _=some r from h)
  obtain⟨u,hu,h⟩:=ob_some.1 h
  obtain⟨t,ht,h⟩:=ob_some.1 h
  obtain⟨g,hg,h⟩:=ob_some.1 h
  obtain⟨b,hb,hg⟩:=ob_some.1 (show ob v.asB _=some g from hg)
  have hc:=gev_ok F hv
  rw[asB_eq hb]at hc
  cases b with
  |true=>cases hg;exact⟨_,H,h,.inl ⟨rfl,rfl,rfl,rfl,_,gev_ok F hu,fun w=>by simp[execOp,hc.bool_inv,asBool]⟩⟩
  |false=>cases hg;exact⟨_,H,h,.inl ⟨rfl,rfl,rfl,rfl,_,gev_ok F ht,fun w=>by simp[execOp,hc.bool_inv,asBool]⟩⟩
 |alloc T=>
  obtain⟨g,H',hg,h⟩:=kOR_some (show kOR (vAlloc tb T H) k=some r from h)
  exact⟨g,H',h,.does rfl (vAlloc_ok hG Rr hg) (fun v w' hr=>by simp[execOp,hr])⟩
 |box T x=>
  obtain⟨v,hv,h⟩:=ob_some.1 (show ob (gev σ x) _=some r from h)
  obtain⟨g,H',hg,h⟩:=kOR_some h
  exact⟨g,H',h,.does rfl (vBox_ok (T:=T) Rr (gev_ok F hv) hg) (fun v w' hr=>by simp[execOp,hr])⟩
 | build T ps =>
  obtain⟨vs,hvs,h⟩:=ob_some.1 (show ob (gparts σ ps.toList) _=some r from h)
  obtain⟨g,hg,h⟩:=ob_some.1 h
  exact⟨g,H,h,.comp rfl (vBuild_ok hG (gparts_ok F hvs) hg) (fun w v hr=>by
   have e:(ps.toList.map fun p=>(p.1,a.eval p.2)).toArray=ps.map fun p=>(p.1,a.eval p.2):=by apply Array.toList_inj.1;simp
   rw[e]at hr
   simp[execOp,hr])⟩
 | buildSlice T m ps =>
  obtain⟨vs,hvs,h⟩:=ob_some.1 (show ob (gparts σ ps.toList) _=some r from h)
  obtain⟨g,H',hg,h⟩:=kOR_some h
  exact⟨g,H',h,.does rfl (vBuildS_ok hG Rr (gparts_ok F hvs) hg) (fun v w' hr=>by
   have e:(ps.toList.map fun p=>(p.1,a.eval p.2)).toArray=ps.map fun p=>(p.1,a.eval p.2):=by apply Array.toList_inj.1;simp
   rw[e]at hr
   simp[execOp,hr])⟩
 |load T x=>
  obtain⟨v,hv,h⟩:=ob_some.1 (show ob (gev σ x) _=some r from h)
  obtain⟨g,hg,h⟩:=ob_some.1 h
  obtain⟨x',p,l,he,hl,hgt,hx',hr⟩:=vLoad_ok (P:=P) hG Rr (gev_ok F hv) hg
  exact⟨g,H,h,.inr (.inl ⟨rfl,rfl,rfl,x',p.1,l,by show ob (gev σ x) _=_;rw[hv,he];rfl,hl,hgt,hx',fun w' hw'=>by have:=hr w' hw';simp[execOp,this]⟩)⟩
 |store T x y=>
  obtain⟨v,hv,h⟩:=ob_some.1 (show ob (gev σ x) _=some r from h)
  obtain⟨u,hu,h⟩:=ob_some.1 h
  obtain⟨g,H',hg,h⟩:=kOR_some h
  exact⟨g,H',h,.act rfl (vStore_ok hG Rr (gev_ok F hv) (gev_ok F hu) hg) (fun w' hr=>by simp[execOp,hr])⟩
 |nilCheck x=>
  obtain⟨v,hv,h⟩:=ob_some.1 (show ob (gev σ x) _=some r from h)
  obtain⟨g,hg,hk⟩:=ob_some.1 h
  obtain⟨rfl,hr⟩:=nilck_ok (P:=P) (gev_ok F hv) hg
  exact⟨_,H,hk,.inl ⟨rfl,rfl,rfl,rfl,_,gev_ok F hv,fun w=>hr _ x a.eval rfl rfl w⟩⟩
 | binOp op T x y T' =>
  obtain⟨v,hv,h⟩:=ob_some.1 (show ob (gev σ x) _=some r from h)
  obtain⟨u,hu,h⟩:=ob_some.1 h
  obtain⟨g,hg,h⟩:=ob_some.1 h
  exact⟨g,H,h,.comp rfl (vBin_ok hG x y (gev_ok F hv) (gev_ok F hu) hg) (fun w v hr=>by
   simp only[execOp]
   simp at hr ⊢
   cases hq:Sem.run P (eqGuard op T x y (a.eval x) (a.eval y)) w with
   |ok u w1=>rw[hq]at hr;simp at hr;simp[hr]
   |halt h1 w1=>rw[hq]at hr;cases hr)⟩
 |unOp op T x=>
  obtain⟨v,hv,h⟩:=ob_some.1 (show ob (gev σ x) _=some r from h)
  obtain⟨g,hg,h⟩:=ob_some.1 h
  exact⟨g,H,h,.comp rfl (vUn_ok (gev_ok F hv) hg) (fun w v hr=>by simp[execOp,hr])⟩
 |convert S D x=>
  obtain⟨v,hv,h⟩:=ob_some.1 (show ob (gev σ x) _=some r from h)
  obtain⟨g,hg,h⟩:=ob_some.1 h
  exact⟨g,H,h,.comp rfl (vConv_ok hG (gev_ok F hv) hg) (fun w v hr=>by simp[execOp,hr])⟩
 | makeFunc fn first caps =>
  cases fn with
  |func f=>
   obtain⟨us,hus,h⟩:=ob_some.1 (show ob (gevs σ first.toList) _=some r from h)
   obtain⟨vs,hvs,h⟩:=ob_some.1 h
   refine⟨_,H,h,.inl ⟨rfl,rfl,rfl,rfl,_,Rl.fn' (gevs_ok F hus) (gevs_ok F hvs),fun w=> ?_⟩⟩
   have e1:(first.toList.map a.eval).toArray=first.map a.eval:=by apply Array.toList_inj.1;simp
   have e2:(caps.toList.map a.eval).toArray=caps.map a.eval:=by apply Array.toList_inj.1;simp
   rw[e1,e2]
   simp[execOp,Instr.makeFunc]
  |_=>cases h
 | makeMap T q =>
  cases q with
  |none=>
   obtain⟨g,H',hg,h⟩:=kOR_some (show kOR (vMakeMap H) k=some r from h)
   exact⟨g,H',h,.does rfl (vMakeMap_ok (T:=T) Rr hg) (fun v w' hr=>by simp[execOp,hr])⟩
  |some x=>cases h
 |makeSlice T x y=>
  obtain⟨v,hv,h⟩:=ob_some.1 (show ob (gev σ x) _=some r from h)
  obtain⟨u,hu,h⟩:=ob_some.1 h
  obtain⟨g,H',hg,h⟩:=kOR_some h
  exact⟨g,H',h,.does rfl (vMake_ok hG Rr (gev_ok F hv) (gev_ok F hu) hg) (fun v w' hr=>by simp[execOp,hr])⟩
 | slice T x lo hi mx =>
  cases mx with
  |none=>
   obtain⟨v,hv,h⟩:=ob_some.1 (show ob (gev σ x) _=some r from h)
   obtain⟨l,hl,h⟩:=ob_some.1 h
   obtain⟨e,he,h⟩:=ob_some.1 h
   obtain⟨g,hg,h⟩:=ob_some.1 h
   exact⟨g,H,h,.comp rfl (vSlice_ok hG (.inl ⟨_,_,Rr⟩) (gev_ok F hv) (gevo_ok F hl) (gevo_ok F he) hg) (fun w v hr=>by simp[execOp,hr])⟩
  |some y=>cases h
 |fieldAddr T x f=>
  obtain⟨v,hv,h⟩:=ob_some.1 (show ob (gev σ x) _=some r from h)
  obtain⟨g,hg,h⟩:=ob_some.1 h
  exact⟨g,H,h,.comp rfl (vField_ok hG (gev_ok F hv) hg) (fun w v hr=>by simp[execOp,hr])⟩
 |field T x f=>
  obtain⟨v,hv,h⟩:=ob_some.1 (show ob (gev σ x) _=some r from h)
  obtain⟨g,hg,h⟩:=ob_some.1 h
  exact⟨g,H,h,.comp rfl (vPart_ok hG (gev_ok F hv) hg) (fun w v hr=>by simp[execOp,hr])⟩
 |indexAddr T x y=>
  obtain⟨v,hv,h⟩:=ob_some.1 (show ob (gev σ x) _=some r from h)
  obtain⟨u,hu,h⟩:=ob_some.1 h
  obtain⟨g,hg,h⟩:=ob_some.1 h
  exact⟨g,H,h,.comp rfl (vIndex_ok hG (gev_ok F hv) (gev_ok F hu) hg) (fun w v hr=>by simp[execOp,hr])⟩
 |index T x y=>
  obtain⟨v,hv,h⟩:=ob_some.1 (show ob (gev σ x) _=some r from h)
  obtain⟨u,hu,h⟩:=ob_some.1 h
  obtain⟨g,hg,h⟩:=ob_some.1 h
  exact⟨g,H,h,.comp rfl (vAt_ok hG (gev_ok F hv) (gev_ok F hu) hg) (fun w v hr=>by simp[execOp,hr])⟩
 |lookup T x y ok=>
  obtain⟨v,hv,h⟩:=ob_some.1 (show ob (gev σ x) _=some r from h)
  obtain⟨u,hu,h⟩:=ob_some.1 h
  obtain⟨g,hg,h⟩:=ob_some.1 h
  exact⟨g,H,h,.read rfl rfl (vLook_ok hG Rr (gev_ok F hv) (gev_ok F hu) hg) (fun v hr=>by simp[execOp,hr])⟩
 |mapUpdate T x y z=>
  obtain⟨v,hv,h⟩:=ob_some.1 (show ob (gev σ x) _=some r from h)
  obtain⟨u,hu,h⟩:=ob_some.1 h
  obtain⟨t,ht,h⟩:=ob_some.1 h
  obtain⟨g,H',hg,h⟩:=kOR_some h
  exact⟨g,H',h,.act rfl (vMapUp_ok hG Rr (gev_ok F hv) (gev_ok F hu) (gev_ok F ht) hg) (fun w' hr=>by simp[execOp,hr])⟩
 |extract x i=>
  obtain⟨v,hv,h⟩:=ob_some.1 (show ob (gev σ x) _=some r from h)
  obtain⟨g,hg,h⟩:=ob_some.1 h
  exact⟨g,H,h,.comp rfl (vExt_ok (gev_ok F hv) hg) (fun w v hr=>by simp[execOp,hr])⟩
 | call c =>
  obtain⟨cal,xs,ts⟩:=c
  cases cal with
  |value f=>exact kCallV_ok hih F Rr h
  |invoke x m=>cases h
  |builtin b=>
   refine kBuB_ok hG F Rr ?_ h
   rcases hoa with hoa|⟨c,f,e1,e2⟩
   ·exact Nat.eq_of_beq_eq_true hoa
   ·cases e1;cases e2
 |_=>cases h
end
end Go.Gx
end
section
namespace Go.Gx
open Go Go.Sx Go.RowKit

theorem unpackL_eq {R:Type}:∀(ks:List Nat) (vs:List GV) (f:GF->Option R),unpackL ks vs f=ob (unpackL ks vs some) f
 | [],[],f=>rfl
 | [],_::_,f=>rfl
 |key::ks,[],f=>rfl
 |key::ks,v::vs,f=>by
  show unpackL ks vs (fun σ=>f ((key,v)::σ))=ob (unpackL ks vs fun σ=>some ((key,v)::σ)) f
  rw[unpackL_eq ks vs (fun σ=>f ((key,v)::σ)),unpackL_eq ks vs (fun σ=>some ((key,v)::σ))]
  cases unpackL ks vs some<;>rfl
theorem unpackL_some {R:Type} {ks:List Nat} {vs:List GV} {f:GF->Option R} {r:R} (h:unpackL ks vs f=some r):∃σ,unpackL ks vs some=some σ∧f σ=some r:=by
 rw[unpackL_eq]at h;exact ob_some.1 h
theorem pack_ok {ρ:Rho} {n:Nat} {σ:GF} {a:Act} (F:FrOk ρ n σ a):∀{ks:List Nat} {σ':GF},unpackL ks (packL σ ks) some=some σ'->FrOk ρ n σ' a
 | [],σ',h=>by cases h;exact⟨F.defers,F.size,fun t g hg=>by cases hg⟩
 | key :: ks, σ', h => by
  have h':unpackL ks (packL σ ks) (fun σ'=>some ((key,Option.casesOn (motive:=fun _=>GV) (glk σ key) .bad (fun v=>v))::σ'))=some σ':=h
  obtain⟨s,h1,h2⟩:=unpackL_some h'
  cases h2
  have ih:=pack_ok F h1
  refine⟨F.defers,F.size,fun t g hg=> ?_⟩
  rw[glk_cons]at hg
  by_cases e:t=key
  ·subst e
   rw[if_pos rfl]at hg
   cases hk:glk σ t with
   |none=>rw[hk]at hg;cases hg;exact .bad _
   |some v=>rw[hk]at hg;cases hg;exact F.slot t v hk
  ·rw[if_neg e]at hg;exact ih.slot t g hg
theorem pack_ex (σ:GF):∀ks:List Nat,∃σ',unpackL ks (packL σ ks) some=some σ'
 | []=>⟨[],rfl⟩
 |key::ks=>by
  obtain⟨σ',h⟩:=pack_ex σ ks
  refine⟨(key,Option.casesOn (motive:=fun _=>GV) (glk σ key) .bad (fun v=>v))::σ',?_⟩
  show unpackL ks (packL σ ks) (fun σ'=>some ((key,Option.casesOn (motive:=fun _=>GV) (glk σ key) .bad (fun v=>v))::σ'))=_
  rw[unpackL_eq,h];rfl
theorem args_len:∀{m i:Nat} {us:List GV} {σ:GF},unpackL (List.range' i m) us some=some σ->us.length=m
 |0,i,[],σ,h=>rfl
 |0,i,_::_,σ,h=>by cases h
 |m+1,i,[],σ,h=>by cases h
 |m+1,i,u::us,σ,h=>by
  obtain⟨s,h3,_⟩:=unpackL_some (show unpackL (List.range' (i+1) m) us (fun σ=>some ((i,u)::σ))=some σ from h)
  simp[args_len h3]
theorem args_ok {ρ:Rho} {n:Nat} {a:Act} (hd:a.defers=[]) (hs:a.tmps.size=n):∀{m i:Nat} {us:List GV} {vs:List Value} {σ:GF},RlL ρ us vs->(∀j v,vs[j]? = some v->a.tmps[i+j]? = some v)->unpackL (List.range' i m) us some=some σ->FrOk ρ n σ a
 |0,i,[],vs,σ,_,_,h=>by cases h;exact⟨hd,hs,fun t g hg=>by cases hg⟩
 |0,i,_::_,vs,σ,_,_,h=>by cases h
 |m+1,i,[],vs,σ,_,_,h=>by cases h
 | m + 1, i, u :: us, vs, σ, hr, ha, h => by
  obtain⟨v,vs,rfl,h1,h2⟩:=hr.of_cons
  have h':unpackL (List.range' (i+1) m) us (fun σ=>some ((i,u)::σ))=some σ:=h
  obtain⟨s,h3,h4⟩:=unpackL_some h'
  cases h4
  have ih:=args_ok hd hs h2 (fun j v hv=>by have:=ha (j+1) v (by simpa using hv);rwa[show i+(j+1)=i+1+j by omega]at this) h3
  refine⟨hd,hs,fun t g hg=> ?_⟩
  rw[glk_cons]at hg
  by_cases e:t=i
  ·subst e;rw[if_pos rfl]at hg;cases hg
   have:=ha 0 v rfl
   simp[Act.eval,show a.tmps[t]? = some v by simpa using this,h1]
  ·rw[if_neg e]at hg;exact ih.slot t g hg

def okOp (n:Nat) (o:Oper):Bool:=noDefer o&&(match o.dst with|none=>true|some d=>Nat.blt d n)&&(okArgs o.op||(match o.op with|.call c=>(match c.callee with|.value _=>true|_=>false)|_=>false))
section
variable {P:Program} {tb:TB} {gs:Gls} {w0:Base gs}
theorem okOp_spec {n:Nat} {o:Oper} (h:okOp n o=true):noDefer o=true∧(∀d,o.dst=some d->d<n)∧(okArgs o.op=true∨∃c f,o.op = .call c∧c.callee = .value f):=by
 unfold okOp at h
 simp only[Bool.and_eq_true,Bool.or_eq_true]at h
 obtain⟨⟨h1,h2⟩,h3⟩:=h
 refine⟨h1,fun d hd=> ?_,?_⟩
 ·rw[hd]at h2;simpa [Nat.blt_eq]using h2
 ·rcases h3 with h3|h3
  ·exact .inl h3
  ·right
   cases ho:o.op with
   |call c=>
    rw[ho]at h3
    cases hc:c.callee with
    |value f=>exact⟨c,f,rfl,hc⟩
    |invoke x m=>simp only[hc]at h3;cases h3
    |builtin b=>simp only[hc]at h3;cases h3
   |_=>rw[ho]at h3;cases h3
theorem FrOk.putD {ρ:Rho} {n:Nat} {σ:GF} {a:Act} (F:FrOk ρ n σ a) {d:Option Nat} (hd:∀x,d=some x->x<n) {g:GV} {v:Value} (hv:Rl ρ g v):FrOk ρ n (putD d g σ) (a.put d v):=by
 cases d with
 |none=>exact⟨F.defers,F.size,F.slot⟩
 |some d=>exact F.put (hd d rfl) hv
theorem evOp_ok {ih:CH} (hG:TabOk P tb) (hih:CallOk P w0 ih) {all:List Oper} {n:Nat} {o:Oper} {k:GS->RS} {s:GS} {out:Out} {ρ:Rho} {a:Act} {w:World} (ho:okOp n o=true) (F:FrOk ρ n s.σ a) (R:Rel w0 ρ s.H w) (h:evOp tb ih all o k s=some out):
  (Region.wanted o (yielded all.toArray a.tmps)=true∧∃g H',k ⟨putD o.dst g s.σ,H'⟩=some out∧OpSem P w0 ρ s.σ a w o g s.H H')∨
  (Region.wanted o (yielded all.toArray a.tmps)=false∧k ⟨putD o.dst .un s.σ,s.H⟩=some out):=by
 obtain⟨h1,h2,h3⟩:=okOp_spec ho
 unfold evOp at h
 cases hg:o.guard with
 |none=>
  rw[hg]at h
  obtain⟨g,H',hk,hs⟩:=gop_ok hG hih F R h3 (show gop tb ih o.op s.σ s.H (opK o.dst s k)=some out from h)
  exact .inl ⟨by simp[Region.wanted,hg],g,H',hk,hs⟩
 | some gd =>
  rw[hg]at h
  obtain⟨oj,hoj,h⟩:=ob_some.1 (show ob (nth all gd.1) _=some out from h)
  obtain⟨dj,hdj,h⟩:=ob_some.1 h
  obtain⟨v,hv,h⟩:=ob_some.1 h
  obtain⟨g,H',hgv,hkk⟩:=kOR_some h
  have hslot:=F.slot dj v hv
  rw[nth_eq]at hoj
  have hy:yielded all.toArray a.tmps gd.1=(match a.tmps[dj]? with|some (.bool b)=>some b|_=>none):=by
   unfold yielded
   have:(all.toArray[gd.1]?).bind (·.dst)=some dj:=by simp[hoj,hdj]
   rw[this];rfl
  cases v with
  | bool q =>
   have he:=hslot.bool_inv
   have hq:a.tmps[dj]? = some (.bool q):=by
    simp only[Act.eval,Array.getD_eq_getD_getElem?]at he
    cases hx:a.tmps[dj]? with
    |none=>rw[hx]at he;cases he
    |some z=>rw[hx]at he;simp at he;rw[he]
   rw[hq]at hy
   have hgv':Bool.casesOn (motive:=fun _=>OR) (eqB q gd.2) (some (.un,s.H)) (gop tb ih o.op s.σ s.H orK)=some (g,H'):=hgv
   rw[eqB_eq]at hgv'
   have hw:Region.wanted o (yielded all.toArray a.tmps)=(q==gd.2):=by
    simp only[Region.wanted,hg]
    rw[hy]
    cases q<;>cases gd.2<;>rfl
   cases hqb:(q==gd.2)with
   |true=>
    rw[hqb]at hgv'
    obtain⟨g',H'',hk,hs⟩:=gop_ok hG hih F R h3 (show gop tb ih o.op s.σ s.H orK=some (g,H')from hgv')
    cases hk
    exact .inl ⟨by rw[hw,hqb],g,H',hkk,hs⟩
   |false=>
    rw[hqb]at hgv'
    cases hgv'
    exact .inr ⟨by rw[hw,hqb],hkk⟩
  | un =>
   have he:=hslot.un_inv
   cases hgv
   refine .inr ⟨?_,hkk⟩
   simp only[Region.wanted,hg]
   rw[hy]
   have:(match a.tmps[dj]? with|some (.bool b)=>some b|_=>none)=(none:Option Bool):=by
    simp only[Act.eval,Array.getD_eq_getD_getElem?]at he
    cases hx:a.tmps[dj]? with
    |none=>rfl
    |some z=>rw[hx]at he;simp at he;rw[he];rfl
   rw[this];rfl
  |_=>cases hgv
theorem evOps_ok {ih:CH} (hG:TabOk P tb) (hih:CallOk P w0 ih) {all:List Oper} {n:Nat} {k:GS->RS} {out:Out} {Q:Exit->Act->World->Prop}:∀(l:List Oper) (s:GS) (ρ:Rho) (a:Act) (w:World),l.all (okOp n)=true->FrOk ρ n s.σ a->Rel w0 ρ s.H w->evOps tb ih all k l s=some out->
  (∀s' ρ' a' w',k s'=some out->ρ.le ρ'->FrOk ρ' n s'.σ a'->Rel w0 ρ' s'.H w'->Q .normal a' w')->Sx.wpList P all.toArray Q l a w
 | [],s,ρ,a,w,_,F,R,h,hk=>hk s ρ a w h (Rho.le_refl _) F R
 | o :: l, s, ρ, a, w, hl, F, R, h, hk => by
  simp only[List.all_cons,Bool.and_eq_true]at hl
  obtain⟨_,hdst,_⟩:=okOp_spec hl.1
  rcases evOp_ok hG hih hl.1 F R (show evOp tb ih all o (evOps tb ih all k l) s=some out from h)with⟨hw,g,H',hk',hs⟩|⟨hw,hk'⟩
  ·refine wpList_take hw ?_
   have fin:∀ρ' w' v,ρ.le ρ'->Rel w0 ρ' H' w'->Rl ρ' g v->Sx.wpList P all.toArray Q l (a.put o.dst v) w':=fun ρ' w' v hle R' hv=>
    evOps_ok hG hih l ⟨putD o.dst g s.σ,H'⟩ ρ' _ w' hl.2 ((F.le hle).putD hdst hv) R' hk' (fun s' ρ'' a' w'' h1 h2 h3 h4=>hk s' ρ'' a' w'' h1 (Rho.le_trans hle h2) h3 h4)
   rcases hs with⟨_,_,_,rfl,v,hv,hr⟩|⟨_,_,rfl,v,_,_,_,_,_,hv,hr⟩|⟨_,_,rfl,v,hv,hr⟩|⟨_,hr⟩
   ·simp only[Oper.wp,hr w,Oper.upon];exact fin ρ w v (Rho.le_refl _) R hv
   ·simp only[Oper.wp,hr w rfl,Oper.upon];exact fin ρ w v (Rho.le_refl _) R hv
   ·simp only[Oper.wp,hr,Oper.upon];exact fin ρ w v (Rho.le_refl _) R hv
   ·exact nwp_Q (hr _ fin)
  ·unfold Sx.wpList
   rw[if_neg (by rw[hw];simp)]
   exact evOps_ok hG hih l ⟨putD o.dst .un s.σ,s.H⟩ ρ _ w hl.2 (F.putD hdst .un) R hk' hk
theorem ordered_spec {l:List Oper} {p:Op->Bool} (h:ordered l p=true) {i j:Nat} {oi oj:Oper} (hi:l[i]? = some oi) (hj:l[j]? = some oj) (hr:p oi.op=true) (hl:loudOp oj.op=true):before (masks l) i j=true∨before (masks l) j i=true:=by
 unfold ordered at h
 have h1:=List.all_eq_true.1 h i (List.mem_range.2 (getElem?_lt hi))
 simp only[hi,hr,Bool.not_true,Bool.false_or]at h1
 have h2:=List.all_eq_true.1 h1 j (List.mem_range.2 (getElem?_lt hj))
 simp only[hj,hl,Bool.not_true,Bool.false_or,Bool.or_eq_true]at h2
 exact h2
theorem vck_some {α:Type} {H:GH} {h v:Nat} {k:Option α} {out:α} (x:vck H h v k=some out):H.ver h=some v∧k=some out:=by
 obtain⟨u,hu,x⟩:=ob_some.1 (show ob (H.ver h) _=some out from x)
 cases hb:Nat.beq u v with
 |false=>rw[hb]at x;cases x
 |true=>rw[hb]at x;rw[hu,Nat.eq_of_beq_eq_true hb];exact⟨rfl,x⟩
theorem ckLoud_some {m:List Nat} {i:Nat} {H:GH} {u:Unit}:∀{pr:List (Nat×Option (Nat×Nat))},ckLoud m i H pr=some u->∀p∈pr,before m i p.1=false->∀hv,p.2=some hv->H.ver hv.1=some hv.2
 | [],h=>fun p hp=>by simp at hp
 | p :: pr, h => by
  have h':Bool.casesOn (motive:=fun _=>Option Unit) (before m i p.1) (pck H p.2 (ckLoud m i H pr)) (ckLoud m i H pr)=some u:=h
  intro q hq hbq hv he
  cases hb:before m i p.1 with
  | false =>
   rw[hb]at h'
   have h2:(∀hv,p.2=some hv->H.ver hv.1=some hv.2)∧ckLoud m i H pr=some u:=by
    cases hp2:p.2 with
    |none=>rw[hp2]at h';exact⟨fun _ h=>(by cases h),h'⟩
    |some x=>rw[hp2]at h';obtain⟨h1,h3⟩:=vck_some (show vck H x.1 x.2 _=some u from h');exact⟨fun y hy=>by cases hy;exact h1,h3⟩
   rcases List.mem_cons.1 hq with rfl|hq
   ·exact h2.1 hv he
   ·exact ckLoud_some h2.2 q hq hbq hv he
  |true=>
   rw[hb]at h'
   rcases List.mem_cons.1 hq with rfl|hq
   ·rw[hb]at hbq;cases hbq
   ·exact ckLoud_some h' q hq hbq hv he
theorem ckRead_some {m:List Nat} {i h v:Nat} {e:Option (Nat×Nat)}:∀{hs:List (Nat×GH)},ckRead m i h v hs=some e->e=some (h,v)∧∀q∈hs,before m i q.1=false->q.2.ver h=some v
 | [],x=>by cases x;exact⟨rfl,fun p hp=>by simp at hp⟩
 | q :: hs, x => by
  have x':Bool.casesOn (motive:=fun _=>Option (Option (Nat×Nat))) (before m i q.1) (vck q.2 h v (ckRead m i h v hs)) (ckRead m i h v hs)=some e:=x
  cases hb:before m i q.1 with
  |false=>
   rw[hb]at x'
   obtain⟨h1,h2⟩:=vck_some x'
   obtain⟨h3,h4⟩:=ckRead_some h2
   refine⟨h3,fun p hp hbp=> ?_⟩
   rcases List.mem_cons.1 hp with rfl|hp
   ·exact h1
   ·exact h4 p hp hbp
  |true=>
   rw[hb]at x'
   obtain⟨h3,h4⟩:=ckRead_some x'
   refine⟨h3,fun p hp hbp=> ?_⟩
   rcases List.mem_cons.1 hp with rfl|hp
   ·rw[hb]at hbp;cases hbp
   ·exact h4 p hp hbp
end
end Go.Gx
end
section
namespace Go.Gx
open Go Go.Sx Go.RowKit

section
variable {R α:Type}
theorem kOR_orK (r:OR) (k:GV->GH->Option R):kOR r k=kOR (kOR r orK) k:=by
 cases r with
 |none=>rfl
 |some p=>rfl
theorem ob_kOR (x:Option α) {f:α->Option R} {g:α->OR} {k:GV->GH->Option R} (h:∀a,f a=kOR (g a) k):ob x f=kOR (ob x g) k:=by
 cases x with
 |none=>rfl
 |some a=>exact h a
theorem gop_nat {tb:TB} {ih:CH} {σ:GF} {H:GH} (o:Op) (k:GV->GH->Option R):gop tb ih o σ H k=kOR (gop tb ih o σ H orK) k:=by
 have e1:∀x (f:GV->Option GV),k1 x f σ H k=kOR (k1 x f σ H orK) k:=fun x f=>ob_kOR _ fun x=>ob_kOR _ fun v=>ob_kOR _ fun g=>rfl
 have e2:∀x y (f:GV->GV->Option GV),k2 x y f σ H k=kOR (k2 x y f σ H orK) k:=fun x y f=>ob_kOR _ fun x=>ob_kOR _ fun v=>ob_kOR _ fun u=>ob_kOR _ fun g=>rfl
 have e3:∀x y z (f:GV->GV->GV->Option GV),k3 x y z f σ H k=kOR (k3 x y z f σ H orK) k:=fun x y z f=>ob_kOR _ fun x=>ob_kOR _ fun v=>ob_kOR _ fun u=>ob_kOR _ fun t=>ob_kOR _ fun g=>rfl
 cases o with
 |move x=>exact ob_kOR _ fun v=>rfl
 |assign x=>exact ob_kOR _ fun v=>rfl
 |pick c x y=>exact e3 _ _ _ _
 |alloc T=>exact kOR_orK _ _
 |box T x=>exact ob_kOR _ fun v=>kOR_orK _ _
 |build T ps=>exact ob_kOR _ fun vs=>ob_kOR _ fun g=>rfl
 |buildSlice T m ps=>exact ob_kOR _ fun x=>kOR_orK _ _
 |load T x=>exact ob_kOR _ fun v=>ob_kOR _ fun g=>rfl
 |store T x y=>exact ob_kOR _ fun v=>ob_kOR _ fun u=>kOR_orK _ _
 |nilCheck x=>exact e1 _ _
 |binOp op T x y T'=>exact e2 _ _ _
 |unOp op T x=>exact e1 _ _
 |convert S D x=>exact e1 _ _
 |makeFunc fn first caps=>
  cases fn with
  |func f=>exact ob_kOR _ fun us=>ob_kOR _ fun vs=>rfl
  |_=>rfl
 |makeMap T q=>
  cases q with
  |none=>exact kOR_orK _ _
  |some x=>rfl
 |makeSlice T x y=>exact ob_kOR _ fun v=>ob_kOR _ fun u=>kOR_orK _ _
 |slice T x lo hi mx=>
  cases mx with
  |none=>exact ob_kOR _ fun v=>ob_kOR _ fun l=>ob_kOR _ fun h=>ob_kOR _ fun g=>rfl
  |some y=>rfl
 |fieldAddr T x f=>exact e1 _ _
 |field T x f=>exact e1 _ _
 |indexAddr T x y=>exact e2 _ _ _
 |index T x y=>exact e2 _ _ _
 |lookup T x y ok=>exact ob_kOR _ fun v=>ob_kOR _ fun u=>ob_kOR _ fun g=>rfl
 |mapUpdate T x y z=>exact ob_kOR _ fun v=>ob_kOR _ fun u=>ob_kOR _ fun t=>kOR_orK _ _
 |extract x i=>exact e1 _ _
 | call c =>
  obtain⟨cal,xs,ts⟩:=c
  cases cal with
  |value f=>exact ob_kOR _ fun v=>ob_kOR _ fun g=>ob_kOR _ fun us=>kOR_orK _ _
  |invoke x m=>rfl
  | builtin b =>
   show kBuB tb xs ts b σ H k=kOR (kBuB tb xs ts b σ H orK) k
   obtain⟨xs⟩:=xs
   cases b with
   |len=>
    match xs with
    | []=>rfl
    | [x]=>exact ob_kOR _ fun T=>ob_kOR _ fun v=>ob_kOR _ fun g=>rfl
    |_::_::_=>rfl
   |max=>
    match xs with
    | []=>rfl
    | [x]=>rfl
    | [x,y]=>exact e2 _ _ _
    |_::_::_::_=>rfl
   |min=>
    match xs with
    | []=>rfl
    | [x]=>rfl
    | [x,y]=>exact e2 _ _ _
    |_::_::_::_=>rfl
   |append=>
    match xs with
    | []=>rfl
    | [x]=>rfl
    | [x,y]=>exact ob_kOR _ fun T=>ob_kOR _ fun T'=>ob_kOR _ fun v=>ob_kOR _ fun u=>kOR_orK _ _
    |_::_::_::_=>rfl
   |_=>rfl
 |_=>rfl

theorem gevs_congr {σ σ':GF}:∀{xs:List Operand},(∀x∈xs,gev σ x=gev σ' x)->gevs σ xs=gevs σ' xs
 | [],_=>rfl
 |x::xs,h=>by
  show ob (gev σ x) (fun v=>ob (gevs σ xs) fun vs=>some (v::vs))=ob (gev σ' x) (fun v=>ob (gevs σ' xs) fun vs=>some (v::vs))
  rw[h x List.mem_cons_self,gevs_congr fun y hy=>h y (List.mem_cons_of_mem _ hy)]
theorem gparts_congr {σ σ':GF}:∀{xs:List (Nat×Operand)},(∀x∈xs,gev σ x.2=gev σ' x.2)->gparts σ xs=gparts σ' xs
 | [],_=>rfl
 |x::xs,h=>by
  show ob (gev σ x.2) (fun v=>ob (gparts σ xs) fun vs=>some ((x.1,v)::vs))=ob (gev σ' x.2) (fun v=>ob (gparts σ' xs) fun vs=>some ((x.1,v)::vs))
  rw[h x List.mem_cons_self,gparts_congr fun y hy=>h y (List.mem_cons_of_mem _ hy)]
theorem gevo_congr {σ σ':GF} {o:Option Operand} (h:∀x∈o.toArray,gev σ x=gev σ' x):gevo σ o=gevo σ' o:=by
 cases o with
 |none=>rfl
 |some x=>
  show ob (gev σ x) (fun v=>some (some v))=ob (gev σ' x) (fun v=>some (some v))
  rw[h x (by simp)]
theorem gop_congr {tb:TB} {ih:CH} {σ σ':GF} {H:GH} {o:Op} {k:GV->GH->Option R} (h:∀x∈o.operands,gev σ x=gev σ' x):gop tb ih o σ H k=gop tb ih o σ' H k:=by
 have e1:∀x (f:GV->Option GV),gev σ x=gev σ' x->k1 x f σ H k=k1 x f σ' H k:=fun x f e=>by simp only[k1,ob,e]
 have e2:∀x y (f:GV->GV->Option GV),gev σ x=gev σ' x->gev σ y=gev σ' y->k2 x y f σ H k=k2 x y f σ' H k:=fun x y f e e'=>by simp only[k2,ob,e,e']
 have e3:∀x y z (f:GV->GV->GV->Option GV),gev σ x=gev σ' x->gev σ y=gev σ' y->gev σ z=gev σ' z->k3 x y z f σ H k=k3 x y z f σ' H k:=fun x y z f e e' e''=>by simp only[k3,ob,e,e',e'']
 cases o with
 |move x=>show kMove x σ H k=kMove x σ' H k;simp only[kMove,ob,h x (by simp[Op.operands])]
 |assign x=>show kMove x σ H k=kMove x σ' H k;simp only[kMove,ob,h x (by simp[Op.operands])]
 |pick c x y=>exact e3 _ _ _ _ (h _ (by simp[Op.operands])) (h _ (by simp[Op.operands])) (h _ (by simp[Op.operands]))
 |alloc T=>rfl
 |box T x=>show kBox x σ H k=kBox x σ' H k;simp only[kBox,ob,h x (by simp[Op.operands])]
 | build T ps =>
  show ob (gparts σ ps.toList) _=ob (gparts σ' ps.toList) _
  rw[gparts_congr fun x hx=>h x.2 (by
   have:x∈ps:=by simpa using hx
   simp only[Op.operands,List.mem_toArray,List.mem_map];exact⟨x,hx,rfl⟩)]
 | buildSlice T m ps =>
  show ob (gparts σ ps.toList) _=ob (gparts σ' ps.toList) _
  rw[gparts_congr fun x hx=>h x.2 (by
   simp only[Op.operands,List.mem_toArray,List.mem_map];exact⟨x,hx,rfl⟩)]
 |load T x=>show kLoad tb T x σ H k=kLoad tb T x σ' H k;simp only[kLoad,ob,h x (by simp[Op.operands])]
 |store T x y=>show kStore tb T x y σ H k=kStore tb T x y σ' H k;simp only[kStore,ob,h x (by simp[Op.operands]),h y (by simp[Op.operands])]
 |nilCheck x=>exact e1 _ _ (h _ (by simp[Op.operands]))
 |binOp op T x y T'=>exact e2 _ _ _ (h _ (by simp[Op.operands])) (h _ (by simp[Op.operands]))
 |unOp op T x=>exact e1 _ _ (h _ (by simp[Op.operands]))
 |convert S D x=>exact e1 _ _ (h _ (by simp[Op.operands]))
 | makeFunc fn first caps =>
  cases fn with
  | func f =>
   show ob (gevs σ first.toList) _=ob (gevs σ' first.toList) _
   rw[gevs_congr fun x hx=>h x (by simp only[Op.operands,Array.mem_append];exact .inl (by simpa using hx)),
    gevs_congr (xs:=caps.toList) fun x hx=>h x (by simp only[Op.operands,Array.mem_append];exact .inr (by simpa using hx))]
  |_=>rfl
 |makeMap T q=>
  cases q with
  |none=>rfl
  |some x=>rfl
 |makeSlice T x y=>show kMake tb T x y σ H k=kMake tb T x y σ' H k;simp only[kMake,ob,h x (by simp[Op.operands]),h y (by simp[Op.operands])]
 | slice T x lo hi mx =>
  cases mx with
  |none=>
   show ob (some x) (fun x=>ob (gev σ x) fun v=>ob (gevo σ lo) fun l=>ob (gevo σ hi) fun h=>ob (vSlice tb T v l h H) fun g=>k g H)=ob (some x) (fun x=>ob (gev σ' x) fun v=>ob (gevo σ' lo) fun l=>ob (gevo σ' hi) fun h=>ob (vSlice tb T v l h H) fun g=>k g H)
   have hlo:gevo σ lo=gevo σ' lo:=gevo_congr fun y hy=>h y (by simp only[Op.operands,Array.mem_append];exact .inl (.inl (.inr hy)))
   have hhi:gevo σ hi=gevo σ' hi:=gevo_congr fun y hy=>h y (by simp only[Op.operands,Array.mem_append];exact .inl (.inr hy))
   have hx:gev σ x=gev σ' x:=h x (by simp only[Op.operands,Array.mem_append];exact .inl (.inl (.inl (by simp))))
   simp only[ob,hlo,hhi,hx]
  |some y=>rfl
 |fieldAddr T x f=>exact e1 _ _ (h _ (by simp[Op.operands]))
 |field T x f=>exact e1 _ _ (h _ (by simp[Op.operands]))
 |indexAddr T x y=>exact e2 _ _ _ (h _ (by simp[Op.operands])) (h _ (by simp[Op.operands]))
 |index T x y=>exact e2 _ _ _ (h _ (by simp[Op.operands])) (h _ (by simp[Op.operands]))
 |lookup T x y ok=>show kLook tb T x y ok σ H k=kLook tb T x y ok σ' H k;simp only[kLook,ob,h x (by simp[Op.operands]),h y (by simp[Op.operands])]
 |mapUpdate T x y z=>show kMapUp tb T x y z σ H k=kMapUp tb T x y z σ' H k;simp only[kMapUp,ob,h x (by simp[Op.operands]),h y (by simp[Op.operands]),h z (by simp[Op.operands])]
 |extract x i=>exact e1 _ _ (h _ (by simp[Op.operands]))
 | call c =>
  obtain⟨cal,xs,ts⟩:=c
  cases cal with
  |value f=>
   have hf:gev σ f=gev σ' f:=h f (by simp[Op.operands,Call.operands])
   have hxs:gevs σ xs.toList=gevs σ' xs.toList:=gevs_congr fun x hx=>h x (by simp[Op.operands,Call.operands];exact .inr (by simpa using hx))
   show ob (gev σ f) _=ob (gev σ' f) _
   simp only[ob,hf,hxs]
  |invoke x m=>rfl
  | builtin b =>
   show kBuB tb xs ts b σ H k=kBuB tb xs ts b σ' H k
   have hx:∀x∈xs,gev σ x=gev σ' x:=fun x hx=>h x (by simp[Op.operands,Call.operands];exact hx)
   obtain⟨xs⟩:=xs
   cases b with
   |len=>
    match xs,hx with
    | [],_=>rfl
    | [x],hx=>show kLen tb ts.toList x σ H k=kLen tb ts.toList x σ' H k;simp only[kLen,ob,hx x (by simp)]
    |_::_::_,_=>rfl
   |max=>
    match xs,hx with
    | [],_=>rfl
    | [x],_=>rfl
    | [x,y],hx=>exact e2 _ _ _ (hx _ (by simp)) (hx _ (by simp))
    |_::_::_::_,_=>rfl
   |min=>
    match xs,hx with
    | [],_=>rfl
    | [x],_=>rfl
    | [x,y],hx=>exact e2 _ _ _ (hx _ (by simp)) (hx _ (by simp))
    |_::_::_::_,_=>rfl
   |append=>
    match xs,hx with
    | [],_=>rfl
    | [x],_=>rfl
    | [x,y],hx=>show kApp tb ts.toList x y σ H k=kApp tb ts.toList x y σ' H k;simp only[kApp,ob,hx x (by simp),hx y (by simp)]
    |_::_::_::_,_=>rfl
   |_=>rfl
 |_=>rfl
end
noncomputable def evO1 (tb:TB) (ih:CH) (all:List Oper) (o:Oper) (σ:GF) (H:GH):OR:=Option.casesOn (motive:=fun _=>OR) o.guard (gop tb ih o.op σ H orK) fun g=>ob (nth all g.1) fun oj=>ob oj.dst fun dj=>ob (glk σ dj) fun v=>evG tb ih o ⟨σ,H⟩ g.2 v
theorem evOp_eq {tb:TB} {ih:CH} {all:List Oper} {o:Oper} {k:GS->RS} {s:GS}:evOp tb ih all o k s=kOR (evO1 tb ih all o s.σ s.H) (opK o.dst s k):=by
 unfold evOp evO1
 cases o.guard with
 |none=>exact gop_nat _ _
 |some g=>exact ob_kOR _ fun oj=>ob_kOR _ fun dj=>ob_kOR _ fun v=>rfl
theorem evOp_some {tb:TB} {ih:CH} {all:List Oper} {o:Oper} {k:GS->RS} {s:GS} {out:Out} (h:evOp tb ih all o k s=some out):∃g H',evO1 tb ih all o s.σ s.H=some (g,H')∧k ⟨putD o.dst g s.σ,H'⟩=some out:=by
 rw[evOp_eq]at h
 obtain⟨g,H',h1,h2⟩:=kOR_some h
 exact⟨g,H',h1,h2⟩
theorem evO1_congr {tb:TB} {ih:CH} {all:List Oper} {o:Oper} {σ σ':GF} {H:GH} (h:∀t∈o.looksAt all.toArray,glk σ t=glk σ' t):evO1 tb ih all o σ H=evO1 tb ih all o σ' H:=by
 have hop:gop tb ih o.op σ H orK=gop tb ih o.op σ' H orK:=gop_congr fun x hx=>by
  cases x with
  |tmp t=>exact h t (List.mem_append_left _ (List.mem_filterMap.2 ⟨.tmp t,by simpa using hx,rfl⟩))
  |_=>rfl
 unfold evO1
 cases hg:o.guard with
 |none=>exact hop
 | some g =>
  show ob (nth all g.1) _=ob (nth all g.1) _
  cases hn:nth all g.1 with
  |none=>rfl
  | some oj =>
   show ob oj.dst _=ob oj.dst _
   cases hd:oj.dst with
   |none=>rfl
   | some dj =>
    have ht:dj∈o.looksAt all.toArray:=by
     rw[nth_eq]at hn
     simp[Oper.looksAt,hg,hn,hd]
    show ob (glk σ dj) (fun v=>evG tb ih o ⟨σ,H⟩ g.2 v)=ob (glk σ' dj) (fun v=>evG tb ih o ⟨σ',H⟩ g.2 v)
    rw[h dj ht]
    cases glk σ' dj with
    |none=>rfl
    | some v =>
     show evG tb ih o ⟨σ,H⟩ g.2 v=evG tb ih o ⟨σ',H⟩ g.2 v
     cases v with
     |bool q=>
      show Bool.casesOn (motive:=fun _=>OR) (eqB q g.2) (some (.un,H)) (gop tb ih o.op σ H orK)=Bool.casesOn (motive:=fun _=>OR) (eqB q g.2) (some (.un,H)) (gop tb ih o.op σ' H orK)
      rw[hop]
     |_=>rfl
section
variable {P:Program} {tb:TB} {gs:Gls} {w0:Base gs}
theorem evO1_want {ih:CH} {all:List Oper} {n:Nat} {o:Oper} {σ:GF} {H H':GH} {g:GV} {ρ:Rho} {a:Act} (F:FrOk ρ n σ a) (h:evO1 tb ih all o σ H=some (g,H')):
  (Region.wanted o (yielded all.toArray a.tmps)=true∧gop tb ih o.op σ H orK=some (g,H'))∨(Region.wanted o (yielded all.toArray a.tmps)=false∧g = .un∧H'=H):=by
 unfold evO1 at h
 cases hg:o.guard with
 |none=>
  rw[hg]at h
  exact .inl ⟨by simp[Region.wanted,hg],h⟩
 | some gd =>
  rw[hg]at h
  obtain⟨oj,hoj,h⟩:=ob_some.1 (show ob (nth all gd.1) _=some (g,H')from h)
  obtain⟨dj,hdj,h⟩:=ob_some.1 h
  obtain⟨v,hv,hgv⟩:=ob_some.1 h
  have hslot:=F.slot dj v hv
  rw[nth_eq]at hoj
  have hy:yielded all.toArray a.tmps gd.1=(match a.tmps[dj]? with|some (.bool b)=>some b|_=>none):=by
   unfold yielded
   have:(all.toArray[gd.1]?).bind (·.dst)=some dj:=by simp[hoj,hdj]
   rw[this];rfl
  cases v with
  | bool q =>
   have he:=hslot.bool_inv
   have hq:a.tmps[dj]? = some (.bool q):=by
    simp only[Act.eval,Array.getD_eq_getD_getElem?]at he
    cases hx:a.tmps[dj]? with
    |none=>rw[hx]at he;cases he
    |some z=>rw[hx]at he;simp at he;rw[he]
   rw[hq]at hy
   have hgv':Bool.casesOn (motive:=fun _=>OR) (eqB q gd.2) (some (.un,H)) (gop tb ih o.op σ H orK)=some (g,H'):=hgv
   rw[eqB_eq]at hgv'
   have hw:Region.wanted o (yielded all.toArray a.tmps)=(q==gd.2):=by
    simp only[Region.wanted,hg]
    rw[hy]
    cases q<;>cases gd.2<;>rfl
   cases hqb:(q==gd.2)with
   |true=>rw[hqb]at hgv';exact .inl ⟨by rw[hw,hqb],hgv'⟩
   |false=>rw[hqb]at hgv';cases hgv';exact .inr ⟨by rw[hw,hqb],rfl,rfl⟩
  | un =>
   have he:=hslot.un_inv
   cases hgv
   refine .inr ⟨?_,rfl,rfl⟩
   simp only[Region.wanted,hg]
   rw[hy]
   have:(match a.tmps[dj]? with|some (.bool b)=>some b|_=>none)=(none:Option Bool):=by
    simp only[Act.eval,Array.getD_eq_getD_getElem?]at he
    cases hx:a.tmps[dj]? with
    |none=>rfl
    |some z=>rw[hx]at he;simp at he;rw[he];rfl
   rw[this];rfl
  |_=>cases hgv
theorem evO1_ok {ih:CH} (hG:TabOk P tb) (hih:CallOk P w0 ih) {all:List Oper} {n:Nat} {o:Oper} {σ:GF} {H H':GH} {g:GV} {ρ:Rho} {a:Act} {w:World} (ho:okOp n o=true) (F:FrOk ρ n σ a) (R:Rel w0 ρ H w) (h:evO1 tb ih all o σ H=some (g,H')):
  (Region.wanted o (yielded all.toArray a.tmps)=true∧OpSem P w0 ρ σ a w o g H H')∨(Region.wanted o (yielded all.toArray a.tmps)=false∧g = .un∧H'=H):=by
 obtain⟨_,_,h3⟩:=okOp_spec ho
 rcases evO1_want F h with⟨hw,hg⟩|h
 ·obtain⟨g',H'',hk,hs⟩:=gop_ok hG hih F R h3 hg
  cases hk
  exact .inl ⟨hw,hs⟩
 ·exact .inr h

def softT (tb:TB) (T:TypeId):Bool:=match tb T with
 |some t=>(match t.desc with|.array .. => false|_=>true)
 |none=>false
def pureOp (tb:TB):Op->Bool
 | .move _ | .assign _ | .pick .. | .build .. | .nilCheck _ | .binOp .. | .unOp .. | .convert .. | .makeFunc .. | .fieldAddr .. | .field .. | .indexAddr .. | .index .. | .extract .. => true
 | .slice T _ _ _ _=>softT tb T
 | .call ⟨.builtin .len,_,_⟩ | .call ⟨.builtin .max,_,_⟩ | .call ⟨.builtin .min,_,_⟩=>true
 |_=>false
def isFloat:Op->Bool
 | .buildSlice .. | .alloc .. | .box .. => true
 |_=>false
theorem pure_of_comp {ρ:Rho} {g:GV} {s:Sem Value} {a:Act} {o:Oper} (h:Comp P ρ s g) (he:∀w v,s.run P w = .ok v w->(execOp a.eval o).run P w = .ok (.value v) w):∃v,Rl ρ g v∧∀w,(execOp a.eval o).run P w = .ok (.value v) w:=
 let ⟨v,hv,hr⟩:=h;⟨v,hv,fun w=>he w v (hr w)⟩
theorem gop_pure {ih:CH} (hG:TabOk P tb) {ρ:Rho} {n:Nat} {σ:GF} {a:Act} (F:FrOk ρ n σ a) {o:Oper} {H H':GH} {g:GV} (hp:pureOp tb o.op=true) (hoa:okArgs o.op=true) (h:gop tb ih o.op σ H orK=some (g,H')):
  H'=H∧∃v,Rl ρ g v∧∀w,(execOp a.eval o).run P w = .ok (.value v) w:=by
 obtain⟨d,op,ty,pos,aft,gd⟩:=o
 cases op with
 |move x=>
  obtain⟨v,hv,h⟩:=ob_some.1 (show ob (gev σ x) _=some (g,H')from h)
  cases h
  exact⟨rfl,_,gev_ok F hv,fun w=>by simp[execOp]⟩
 |assign x=>
  obtain⟨v,hv,h⟩:=ob_some.1 (show ob (gev σ x) _=some (g,H')from h)
  cases h
  exact⟨rfl,_,gev_ok F hv,fun w=>by simp[execOp]⟩
 |pick c x y=>
  obtain⟨v,hv,h⟩:=ob_some.1 (show ob (gev σ c) _=some (g,H')from h)
  obtain⟨u,hu,h⟩:=ob_some.1 h
  obtain⟨t,ht,h⟩:=ob_some.1 h
  obtain⟨g',hg,h⟩:=ob_some.1 h
  cases h
  obtain⟨b,hb,hg⟩:=ob_some.1 (show ob v.asB _=some g from hg)
  have hc:=gev_ok F hv
  rw[asB_eq hb]at hc
  cases b with
  |true=>cases hg;exact⟨rfl,_,gev_ok F hu,fun w=>by simp[execOp,hc.bool_inv,asBool]⟩
  |false=>cases hg;exact⟨rfl,_,gev_ok F ht,fun w=>by simp[execOp,hc.bool_inv,asBool]⟩
 | build T ps =>
  obtain⟨vs,hvs,h⟩:=ob_some.1 (show ob (gparts σ ps.toList) _=some (g,H')from h)
  obtain⟨g',hg,h⟩:=ob_some.1 h
  cases h
  exact⟨rfl,pure_of_comp (vBuild_ok hG (gparts_ok F hvs) hg) (fun w v hr=>by
   have e:(ps.toList.map fun p=>(p.1,a.eval p.2)).toArray=ps.map fun p=>(p.1,a.eval p.2):=by apply Array.toList_inj.1;simp
   rw[e]at hr
   simp[execOp,hr])⟩
 |nilCheck x=>
  obtain⟨v,hv,h⟩:=ob_some.1 (show ob (gev σ x) _=some (g,H')from h)
  obtain⟨g',hg,h⟩:=ob_some.1 h
  cases h
  obtain⟨rfl,hr⟩:=nilck_ok (P:=P) (gev_ok F hv) hg
  exact⟨rfl,_,gev_ok F hv,fun w=>hr _ x a.eval rfl rfl w⟩
 | binOp op T x y T' =>
  obtain⟨v,hv,h⟩:=ob_some.1 (show ob (gev σ x) _=some (g,H')from h)
  obtain⟨u,hu,h⟩:=ob_some.1 h
  obtain⟨g',hg,h⟩:=ob_some.1 h
  cases h
  exact⟨rfl,pure_of_comp (vBin_ok hG x y (gev_ok F hv) (gev_ok F hu) hg) (fun w v hr=>by
   simp only[execOp]
   simp at hr ⊢
   cases hq:Sem.run P (eqGuard op T x y (a.eval x) (a.eval y)) w with
   |ok u w1=>rw[hq]at hr;simp at hr;simp[hr]
   |halt h1 w1=>rw[hq]at hr;cases hr)⟩
 |unOp op T x=>
  obtain⟨v,hv,h⟩:=ob_some.1 (show ob (gev σ x) _=some (g,H')from h)
  obtain⟨g',hg,h⟩:=ob_some.1 h
  cases h
  exact⟨rfl,pure_of_comp (vUn_ok (gev_ok F hv) hg) (fun w v hr=>by simp[execOp,hr])⟩
 |convert S D x=>
  obtain⟨v,hv,h⟩:=ob_some.1 (show ob (gev σ x) _=some (g,H')from h)
  obtain⟨g',hg,h⟩:=ob_some.1 h
  cases h
  exact⟨rfl,pure_of_comp (vConv_ok hG (gev_ok F hv) hg) (fun w v hr=>by simp[execOp,hr])⟩
 | makeFunc fn first caps =>
  cases fn with
  |func f=>
   obtain⟨us,hus,h⟩:=ob_some.1 (show ob (gevs σ first.toList) _=some (g,H')from h)
   obtain⟨vs,hvs,h⟩:=ob_some.1 h
   cases h
   refine⟨rfl,_,Rl.fn' (gevs_ok F hus) (gevs_ok F hvs),fun w=> ?_⟩
   have e1:(first.toList.map a.eval).toArray=first.map a.eval:=by apply Array.toList_inj.1;simp
   have e2:(caps.toList.map a.eval).toArray=caps.map a.eval:=by apply Array.toList_inj.1;simp
   rw[e1,e2]
   simp[execOp,Instr.makeFunc]
  |_=>cases h
 |fieldAddr T x f=>
  obtain⟨v,hv,h⟩:=ob_some.1 (show ob (gev σ x) _=some (g,H')from h)
  obtain⟨g',hg,h⟩:=ob_some.1 h
  cases h
  exact⟨rfl,pure_of_comp (vField_ok hG (gev_ok F hv) hg) (fun w v hr=>by simp[execOp,hr])⟩
 |field T x f=>
  obtain⟨v,hv,h⟩:=ob_some.1 (show ob (gev σ x) _=some (g,H')from h)
  obtain⟨g',hg,h⟩:=ob_some.1 h
  cases h
  exact⟨rfl,pure_of_comp (vPart_ok hG (gev_ok F hv) hg) (fun w v hr=>by simp[execOp,hr])⟩
 |indexAddr T x y=>
  obtain⟨v,hv,h⟩:=ob_some.1 (show ob (gev σ x) _=some (g,H')from h)
  obtain⟨u,hu,h⟩:=ob_some.1 h
  obtain⟨g',hg,h⟩:=ob_some.1 h
  cases h
  exact⟨rfl,pure_of_comp (vIndex_ok hG (gev_ok F hv) (gev_ok F hu) hg) (fun w v hr=>by simp[execOp,hr])⟩
 |index T x y=>
  obtain⟨v,hv,h⟩:=ob_some.1 (show ob (gev σ x) _=some (g,H')from h)
  obtain⟨u,hu,h⟩:=ob_some.1 h
  obtain⟨g',hg,h⟩:=ob_some.1 h
  cases h
  exact⟨rfl,pure_of_comp (vAt_ok hG (gev_ok F hv) (gev_ok F hu) hg) (fun w v hr=>by simp[execOp,hr])⟩
 | slice T x lo hi mx =>
  cases mx with
  | none =>
   obtain⟨v,hv,h⟩:=ob_some.1 (show ob (gev σ x) _=some (g,H')from h)
   obtain⟨l,hl,h⟩:=ob_some.1 h
   obtain⟨e,he,h⟩:=ob_some.1 h
   obtain⟨g',hg,h⟩:=ob_some.1 h
   cases h
   have hA:∀t,tb T=some t->tdA t.desc=none:=fun t ht=>by
    have hs:softT tb T=true:=hp
    unfold softT at hs
    rw[ht]at hs
    simp only at hs
    cases hq:t.desc<;>rw[hq]at hs<;>first|rfl|cases hs
   exact⟨rfl,pure_of_comp (vSlice_ok (gs:=[]) hG (.inr hA) (gev_ok F hv) (gevo_ok F hl) (gevo_ok F he) hg) (fun w v hr=>by simp[execOp,hr])⟩
  |some y=>cases h
 |extract x i=>
  obtain⟨v,hv,h⟩:=ob_some.1 (show ob (gev σ x) _=some (g,H')from h)
  obtain⟨g',hg,h⟩:=ob_some.1 h
  cases h
  exact⟨rfl,pure_of_comp (vExt_ok (gev_ok F hv) hg) (fun w v hr=>by simp[execOp,hr])⟩
 | call c =>
  obtain⟨cal,xs,ts⟩:=c
  cases cal with
  |value f=>cases hp
  |invoke x m=>cases hp
  | builtin b =>
   have hlen:ts.size=xs.size:=Nat.eq_of_beq_eq_true hoa
   have h:kBuB tb xs ts b σ H orK=some (g,H'):=h
   cases b with
   | len =>
    obtain⟨x,hx,h⟩:=kArg1_some (show kArg1 xs.toList (kLen tb ts.toList) σ H orK=some (g,H')from h)
    obtain⟨T,hT,h⟩:=ob_some.1 (show ob (nth ts.toList 0) _=some (g,H')from h)
    obtain⟨v,hv,h⟩:=ob_some.1 h
    obtain⟨g',hg,h⟩:=ob_some.1 h
    cases h
    have ex:=toList1 hx
    subst ex
    have et:ts = #[T]:=by
     rw[nth_eq]at hT
     obtain⟨l⟩:=ts
     match l,hlen with
     | [t],_=>simp at hT;subst hT;rfl
    subst et
    exact⟨rfl,pure_of_comp (vLen_ok hG (ty:=ty) (gev_ok F hv) hg) (fun w v hr=>by simp[execOp,resolve,invoke,builtin,hr])⟩
   | max =>
    obtain⟨x,y,hx,h⟩:=kArg2_some (show kArg2 xs.toList (fun x y=>k2 x y vMax) σ H orK=some (g,H')from h)
    obtain⟨v,hv,h⟩:=ob_some.1 (show ob (gev σ x) _=some (g,H')from h)
    obtain⟨u,hu,h⟩:=ob_some.1 h
    obtain⟨g',hg,h⟩:=ob_some.1 h
    cases h
    have ex:=toList2 hx
    subst ex
    obtain⟨t1,t2,et⟩:∃t1 t2,ts = #[t1,t2]:=by
     obtain⟨l⟩:=ts
     match l,hlen with
     | [t,t'],_=>exact⟨t,t',rfl⟩
    subst et
    exact⟨rfl,pure_of_comp (vMax_ok (t1:=t1) (t2:=t2) (ty:=ty) (gev_ok F hv) (gev_ok F hu) hg) (fun w v hr=>by simp[execOp,resolve,invoke,builtin,hr])⟩
   | min =>
    obtain⟨x,y,hx,h⟩:=kArg2_some (show kArg2 xs.toList (fun x y=>k2 x y vMin) σ H orK=some (g,H')from h)
    obtain⟨v,hv,h⟩:=ob_some.1 (show ob (gev σ x) _=some (g,H')from h)
    obtain⟨u,hu,h⟩:=ob_some.1 h
    obtain⟨g',hg,h⟩:=ob_some.1 h
    cases h
    have ex:=toList2 hx
    subst ex
    obtain⟨t1,t2,et⟩:∃t1 t2,ts = #[t1,t2]:=by
     obtain⟨l⟩:=ts
     match l,hlen with
     | [t,t'],_=>exact⟨t,t',rfl⟩
    subst et
    exact⟨rfl,pure_of_comp (vMin_ok (t1:=t1) (t2:=t2) (ty:=ty) (gev_ok F hv) (gev_ok F hu) hg) (fun w v hr=>by simp[execOp,resolve,invoke,builtin,hr])⟩
   |_=>cases hp
 |_=>cases hp
theorem vBuildS_raw (hG:TabOk P tb) {T:TypeId} {n:Nat} {l:List (Nat×GV)} {parts:List (Nat×Value)} {ρ:Rho} {H H':GH} {g:GV} (hp:RlP ρ l parts) (h:vBuildS tb T n l H=some (g,H')):
  ∃cs a' T' len sz,H'=H.new (.cells cs)∧g = .sl H.n 0 len sz∧RlC ρ cs a'∧cs.length=a'.size∧∀w:World,∃V,(Instr.buildSlice T n parts.toArray).run P w = .ok V (w.alloc (.cells a' T'))∧∀ρ':Rho,ρ' H.n=some ⟨w.heap.size,0,a'.size,.cells a' T',.cells cs⟩->Rl ρ' g V:=by
 obtain⟨te,hte,h⟩:=ob_some.1 (show ob (elemOf tb T) _=some (g,H')from h)
 obtain⟨zc,hz,h⟩:=ob_some.1 h
 obtain⟨hlen,h⟩:=bif_some.1 h
 obtain⟨hbig,h⟩:=bif_some.1 h
 obtain⟨h0,h⟩:=bif_some'.1 h
 obtain⟨cs,hfill,h⟩:=ob_some.1 h
 rw[GH.newK_eq]at h;cases h
 obtain⟨⟨d,hd,hde⟩,hE,htab⟩:=elemOf_ok hG hte
 obtain⟨dz,hdz,_,hC⟩:=zeroOf_ok (ρ:=ρ) hG hz
 rw[htab]at hdz;cases hdz
 have hlen:zc.length=te.2.size:=Nat.eq_of_beq_eq_true hlen
 have h0:te.2.size≠0:=fun e=>by rw[e]at h0;cases h0
 have hbig:n*te.2.size<16777216:=by simpa [Nat.blt_eq]using hbig
 have hrep:=rep_rel hC (by omega) n
 rw[hlen]at hrep
 obtain⟨a',f1,f2⟩:=gfillA_ok hp hrep hfill
 have hsz0:cs.length=a'.size:=by have:=f2.r.len;simpa using this
 have hsz:a'.size=n*te.2.size:=by
  have e1:=f2.r.len
  have:cs.length=(rep zc n).length:=gfillA_len hfill
  rw[this,rep_len,hlen]at e1
  simp at e1;omega
 refine⟨cs,a',te.1,n,te.2.size,rfl,rfl,f2,hsz0,fun w=>⟨.slice (some ⟨w.heap.size,0,none⟩) n n,?_,fun ρ' hρ=> .sl (l:=⟨w.heap.size,0,a'.size,.cells a' te.1,.cells cs⟩) hρ (Nat.le_refl _) (.inr ⟨rfl,by simp[hsz]⟩)⟩⟩
 have hu:=hd.run_und w
 rw[hde]at hu
 by_cases hn:n*te.2.size=0
 ·have hz0:n=0:=by rcases Nat.mul_eq_zero.1 hn with h|h;exact h;exact absurd h h0
  subst hz0
  have e0:(Array.range (0*te.2.size)).map (te.2.zero.cells[· % te.2.zero.cells.size]!)=(#[]:Array Value):=by simp
  rw[e0]at f1
  have e1:(Array.range 0).map (fun _=>(default:Value)) = #[]:=by simp
  simp[Instr.buildSlice,hu,hE.run_size w,newRow]
  simp[e1,f1]
 ·simp[Instr.buildSlice,hu,hE.run_size w,hE.run_zero w,hn,f1,newRow,show¬(16777216<n*te.2.size) by omega]

theorem Rl.cut {ρ0 ρ1 ρ2:Rho} (hk:∀h l0 l,ρ0 h=some l0->ρ1 h=some l->ρ2 h=some l) {g:GV} {v:Value} (h1:Rl ρ1 g v):∀{v0:Value},Rl ρ0 g v0->Rl ρ2 g v:=by
 induction h1 with
 |int k n=>exact fun _=> .int k n
 |bool b=>exact fun _=> .bool b
 |str s=>exact fun _=> .str s
 |ptr off hl=>exact fun h0=>by cases h0 with|ptr _ hl0=>exact .ptr off (hk _ _ _ hl0 hl)
 |pnil=>exact fun _=> .pnil
 |sl hl hc ha=>exact fun h0=>by cases h0 with|sl hl0 _ _=>exact .sl (hk _ _ _ hl0 hl) hc ha
 |snil=>exact fun _=> .snil
 |map hl=>exact fun h0=>by cases h0 with|map hl0=>exact .map (hk _ _ _ hl0 hl)
 | fn f a b c d ihb ihd =>
   intro v0 h0
   cases h0 with
   | fn _ a0 b0 c0 d0 =>
    refine .fn f a (fun i g v hg hv=> ?_) c (fun i g v hg hv=> ?_)
    ·have:=getElem?_lt hg
     exact ihb i g v hg hv (b0 i g _ hg (List.getElem?_eq_getElem (by omega)))
    ·have:=getElem?_lt hg
     exact ihd i g v hg hv (d0 i g _ hg (List.getElem?_eq_getElem (by omega)))
 |fnil=>exact fun _=> .fnil
 |inil=>exact fun _=> .inil
 | agg a b c ihb =>
   intro v0 h0
   cases h0 with
   |agg a0 b0 c0=>
    refine .agg a (fun i g v hg hv=> ?_) c
    have:=getElem?_lt hg
    exact ihb i g v hg hv (b0 i g _ hg (List.getElem?_eq_getElem (by omega)))
 | tup a b ihb =>
   intro v0 h0
   cases h0 with
   |tup a0 b0=>
    refine .tup a (fun i g v hg hv=> ?_)
    have:=getElem?_lt hg
    exact ihb i g v hg hv (b0 i g _ hg (List.getElem?_eq_getElem (by omega)))
 |un=>exact fun _=> .un
 |bad v=>exact fun _=> .bad v

structure Trc (tb:TB) (ih:CH) (all l:List Oper) (S:Nat->GF) (HH:Nat->GH) (gg:Nat->GV):Prop where
 st:∀i o,l[i]? = some o->evO1 tb ih all o (S i) (HH i)=some (gg i,HH (i+1))
 up:∀i o,l[i]? = some o->S (i+1)=putD o.dst (gg i) (S i)
theorem evOps_trc {ih:CH} {all:List Oper} {k:GS->RS} {out:Out}:∀(l:List Oper) (s:GS),evOps tb ih all k l s=some out->∃S HH gg,S 0=s.σ∧HH 0=s.H∧Trc tb ih all l S HH gg∧k ⟨S l.length,HH l.length⟩=some out
 | [],s,h=>⟨fun _=>s.σ,fun _=>s.H,fun _=> .un,rfl,rfl,⟨fun i o ho=>by simp at ho,fun i o ho=>by simp at ho⟩,h⟩
 | o :: l, s, h => by
  obtain⟨g,H',h1,h2⟩:=evOp_some (show evOp tb ih all o (evOps tb ih all k l) s=some out from h)
  obtain⟨S,HH,gg,e1,e2,ht,hk⟩:=evOps_trc l _ h2
  refine⟨fun i=>Nat.casesOn i s.σ S,fun i=>Nat.casesOn i s.H HH,fun i=>Nat.casesOn i g gg,rfl,rfl,⟨fun i o' ho=> ?_,fun i o' ho=> ?_⟩,hk⟩
  ·cases i with
   |zero=>simp at ho;subst ho;show evO1 tb ih all o s.σ s.H=some (g,HH 0);rw[h1,e2]
   |succ i=>exact ht.st i o' (by simpa using ho)
  ·cases i with
   |zero=>simp at ho;subst ho;exact e1
   |succ i=>exact ht.up i o' (by simpa using ho)
theorem load_quiet {o:Op} (h:isLoad o=true):loudOp o=false:=by
 cases o<;>first|rfl|cases h
structure Vrs (all l:List Oper) (m:List Nat) (i:Nat) (S:Nat->GF) (HH:Nat->GH) (pr:List (Nat×Option (Nat×Nat))) (hs:List (Nat×GH)):Prop where
 pr:∀q h v,(q,some (h,v))∈pr->∀j oj,l[j]? = some oj->loudOp oj.op=true->before m (i+j) q=false->(HH (j+1)).ver h=some v
 hs:∀k ok h,l[k]? = some ok->isLoad ok.op=true->ldH (S k) ok.op=some h->∃v,(HH k).ver h=some v∧∀q Hq,(q,Hq)∈hs->before m (i+k) q=false->Hq.ver h=some v
 lo:∀k ok h v,l[k]? = some ok->isLoad ok.op=true->ldH (S k) ok.op=some h->(HH k).ver h=some v->
  (∀j oj,j<k->l[j]? = some oj->loudOp oj.op=true->before m (i+k) (i+j)=false->(HH j).ver h=some v)∧(∀j oj,k<j->l[j]? = some oj->loudOp oj.op=true->before m (i+j) (i+k)=false->(HH (j+1)).ver h=some v)
theorem Vrs.cons {all l:List Oper} {m:List Nat} {i:Nat} {S:Nat->GF} {HH:Nat->GH} {pr pr':List (Nat×Option (Nat×Nat))} {hs hs':List (Nat×GH)} {o:Oper} {σ:GF} {H:GH} (V:Vrs all l m (i+1) S HH pr' hs')
  (hpr:∀p∈pr,p∈pr') (hhs:∀p∈hs,p∈hs') (h1:loudOp o.op=true->(i,H)∈hs'∧∀p∈pr,before m i p.1=false->∀hv,p.2=some hv->(HH 0).ver hv.1=some hv.2)
  (h2:isLoad o.op=true->∀h,ldH σ o.op=some h->∃v,H.ver h=some v∧(i,some (h,v))∈pr'∧∀q Hq,(q,Hq)∈hs->before m i q=false->Hq.ver h=some v):
  Vrs all (o::l) m i (fun j=>Nat.casesOn j σ S) (fun j=>Nat.casesOn j H HH) pr hs:=by
 have e:∀j,i+(j+1)=i+1+j:=fun j=>by omega
 refine⟨fun q h v hq j oj hj hl hb=> ?_,fun k ok h hk hl hh=> ?_,fun k ok h v hk hl hh hv=>⟨fun j oj hjk hj hlj hb=> ?_,fun j oj hjk hj hlj hb=> ?_⟩⟩
 ·cases j with
  |zero=>simp at hj;subst hj;exact(h1 hl).2 _ hq (by simpa using hb) _ rfl
  |succ j=>exact V.pr q h v (hpr _ hq) j oj (by simpa using hj) hl (by rw[<-e];exact hb)
 ·cases k with
  |zero=>
   simp at hk;subst hk
   obtain⟨v,a,_,c⟩:=h2 hl h hh
   exact⟨v,a,fun q Hq hq hb=>c q Hq hq (by simpa using hb)⟩
  |succ k=>
   obtain⟨v,a,b⟩:=V.hs k ok h (by simpa using hk) hl hh
   exact⟨v,a,fun q Hq hq hb=>b q Hq (hhs _ hq) (by rw[<-e];exact hb)⟩
 ·cases k with
  |zero=>omega
  | succ k =>
   have hk:l[k]? = some ok:=by simpa using hk
   cases j with
   |zero=>
    simp at hj;subst hj
    obtain⟨v',a,b⟩:=V.hs k ok h hk hl hh
    have a:(HH k).ver h=some v':=a
    have hv:(HH k).ver h=some v:=hv
    rw[a]at hv;cases hv
    exact b i H (h1 hlj).1 (by rw[<-e];simpa using hb)
   |succ j=>exact(V.lo k ok h v hk hl hh hv).1 j oj (by omega) (by simpa using hj) hlj (by rw[<-e,<-e];exact hb)
 ·cases j with
  |zero=>omega
  | succ j =>
   have hj:l[j]? = some oj:=by simpa using hj
   cases k with
   |zero=>
    simp at hk;subst hk
    obtain⟨v',a,b,_⟩:=h2 hl h hh
    have hv:H.ver h=some v:=hv
    rw[a]at hv;cases hv
    exact V.pr i h v b j oj hj hlj (by rw[<-e];simpa using hb)
   |succ k=>exact(V.lo k ok h v (by simpa using hk) hl hh hv).2 j oj (by omega) hj hlj (by rw[<-e,<-e];exact hb)
theorem evW_trc {ih:CH} {all:List Oper} {m:List Nat} {k:GS->RS} {out:Out}:∀(l:List Oper) (i:Nat) (pr:List (Nat×Option (Nat×Nat))) (hs:List (Nat×GH)) (s:GS),evW tb ih all m k l i pr hs s=some out->
  ∃S HH gg,S 0=s.σ∧HH 0=s.H∧Trc tb ih all l S HH gg∧Vrs all l m i S HH pr hs∧k ⟨S l.length,HH l.length⟩=some out
 | [],i,pr,hs,s,h=>⟨fun _=>s.σ,fun _=>s.H,fun _=> .un,rfl,rfl,⟨fun i o ho=>by simp at ho,fun i o ho=>by simp at ho⟩,⟨fun _ _ _ _ j oj hj=>by simp at hj,fun k ok h hk=>by simp at hk,fun k ok h v hk=>by simp at hk⟩,h⟩
 | o :: l, i, pr, hs, s, h => by
  have h':evOpW tb ih all m o (evW tb ih all m k l) i pr hs s=some out:=h
  have trc:∀{g:GV} {H':GH} {S:Nat->GF} {HH:Nat->GH} {gg:Nat->GV},evO1 tb ih all o s.σ s.H=some (g,H')->S 0=putD o.dst g s.σ->HH 0=H'->Trc tb ih all l S HH gg->Trc tb ih all (o::l) (fun j=>Nat.casesOn j s.σ S) (fun j=>Nat.casesOn j s.H HH) (fun j=>Nat.casesOn j g gg):=fun {g H' S HH gg} h1 e1 e2 ht=>⟨fun i o' ho=>by
    cases i with
    |zero=>simp at ho;subst ho;show evO1 tb ih all o s.σ s.H=some (g,HH 0);rw[h1,e2]
    |succ i=>exact ht.st i o' (by simpa using ho),fun i o' ho=>by
    cases i with
    |zero=>simp at ho;subst ho;exact e1
    |succ i=>exact ht.up i o' (by simpa using ho)⟩
  unfold evOpW at h'
  cases hlo:loudOp o.op with
  |true=>
   rw[hlo]at h'
   obtain⟨g,H',h1,h2⟩:=evOp_some h'
   obtain⟨_,h4,h3⟩:=ob_some.1 h2
   have h4:=ckLoud_some h4
   obtain⟨S,HH,gg,e1,e2,ht,hv,hk⟩:=evW_trc l _ _ _ _ h3
   refine⟨_,_,_,rfl,rfl,trc h1 e1 e2 ht,hv.cons (fun _ h=>h) (fun p hp=>List.mem_cons_of_mem _ hp) (fun _=>⟨List.mem_cons_self,fun p hp hb hv' he=>by rw[e2];exact h4 p hp hb hv' he⟩) (fun hld=>by rw[load_quiet hld]at hlo;cases hlo),hk⟩
  | false =>
   rw[hlo]at h'
   cases hld:isLoad o.op with
   |true=>
    simp only[hld]at h'
    obtain⟨g,H',h1,h2⟩:=evOp_some h'
    obtain⟨e,h4,h3⟩:=ob_some.1 h2
    obtain⟨S,HH,gg,e1,e2,ht,hv,hk⟩:=evW_trc l _ _ _ _ h3
    refine⟨_,_,_,rfl,rfl,trc h1 e1 e2 ht,hv.cons (fun p hp=>List.mem_cons_of_mem _ hp) (fun _ h=>h) (fun h=>by rw[hlo]at h;cases h) (fun _ hh hldh=> ?_),hk⟩
    rw[hldh]at h4
    obtain⟨v,hv1,h4⟩:=ob_some.1 (show ob (s.H.ver hh) (fun v=>ckRead m i hh v hs)=some e from h4)
    obtain⟨rfl,h5⟩:=ckRead_some h4
    exact⟨v,hv1,List.mem_cons_self,fun q Hq hq hb=>h5 (q,Hq) hq hb⟩
   |false=>
    simp only[hld]at h'
    obtain⟨g,H',h1,h2⟩:=evOp_some h'
    obtain⟨S,HH,gg,e1,e2,ht,hv,hk⟩:=evW_trc l _ _ _ _ h2
    exact⟨_,_,_,rfl,rfl,trc h1 e1 e2 ht,hv.cons (fun _ h=>h) (fun _ h=>h) (fun h=>by rw[hlo]at h;cases h) (fun h=>by rw[hld]at h;cases h),hk⟩
theorem evO1_run {ih:CH} (hG:TabOk P tb) (hih:CallOk P w0 ih) {all:List Oper} {n:Nat} {o:Oper} {σ:GF} {H H':GH} {g:GV} {ρ:Rho} {a:Act} {w:World} (ho:okOp n o=true) (F:FrOk ρ n σ a) (R:Rel w0 ρ H w) (h:evO1 tb ih all o σ H=some (g,H')):
  ∃ρ' a' w',ρ.le ρ'∧Rel w0 ρ' H' w'∧FrOk ρ' n (putD o.dst g σ) a':=by
 obtain⟨_,hdst,_⟩:=okOp_spec ho
 rcases evO1_ok hG hih ho F R h with⟨_,hs⟩|⟨_,rfl,rfl⟩
 ·rcases hs with⟨_,_,_,rfl,v,hv,_⟩|⟨_,_,rfl,v,_,_,_,_,_,hv,_⟩|⟨_,_,rfl,v,hv,_⟩|⟨_,hr⟩
  ·exact⟨ρ,_,w,Rho.le_refl _,R,F.putD hdst hv⟩
  ·exact⟨ρ,_,w,Rho.le_refl _,R,F.putD hdst hv⟩
  ·exact⟨ρ,_,w,Rho.le_refl _,R,F.putD hdst hv⟩
  ·obtain⟨a',w',ρ',v,h1,h2,h3,rfl⟩:=nwp_some (hr (fun a' w'=>∃ρ' v,ρ.le ρ'∧Rel w0 ρ' H' w'∧Rl ρ' g v∧a'=a.put o.dst v) fun ρ' w' v h1 h2 h3=>⟨ρ',v,h1,h2,h3,rfl⟩)
   exact⟨ρ',_,w',h1,h2,(F.le h1).putD hdst h3⟩
 ·exact⟨ρ,_,w,Rho.le_refl _,R,F.putD hdst .un⟩
theorem trc_ghost {ih:CH} (hG:TabOk P tb) (hih:CallOk P w0 ih) {all:List Oper} {n:Nat} (hall:all.all (okOp n)=true) {S:Nat->GF} {HH:Nat->GH} {gg:Nat->GV} (T:Trc tb ih all all S HH gg) {ρ:Rho} {a:Act} {w:World} (F:FrOk ρ n (S 0) a) (R:Rel w0 ρ (HH 0) w):
    ∀m,m<=all.length->∃ρs:Nat->Rho,(∀i,i<=m->∃a w,Rel w0 (ρs i) (HH i) w∧FrOk (ρs i) n (S i) a)∧∀i,i<m->(ρs i).le (ρs (i+1))
  | 0, _ => ⟨fun _ => ρ, fun i hi => by have : i = 0 := by omega
                                        subst this;exact⟨a,w,R,F⟩,fun i hi=>by omega⟩
  | m + 1, hm => by
    obtain⟨ρs,h1,h2⟩:=trc_ghost hG hih hall T F R m (by omega)
    obtain⟨a1,w1,R1,F1⟩:=h1 m (Nat.le_refl _)
    have hget:all[m]? = some all[m]:=List.getElem?_eq_getElem (by omega)
    obtain⟨ρ2,a2,w2,hle,h3,h4⟩:=evO1_run hG hih (List.all_eq_true.1 hall _ (List.getElem_mem (by omega))) F1 R1 (T.st m _ hget)
    refine⟨fun i=>if i<=m then ρs i else ρ2,fun i hi=> ?_,fun i hi=> ?_⟩
    · by_cases e:i<=m
      · simp only[e,if_true];exact h1 i e
      · have:i=m+1:=by omega
        subst this
        simp only[e,if_false]
        exact⟨a2,w2,h3,by rw[T.up m _ hget];exact h4⟩
    · by_cases e:i+1<=m
      · simp only[e,show i<=m by omega,if_true];exact h2 i (by omega)
      · have:i=m:=by omega
        subst this
        simp only[e,Nat.le_refl,if_true,if_false];exact hle
theorem trc_mono {HH:Nat->GH} {m:Nat} (h1:∀i,i<m->(HH i).n<=(HH (i+1)).n) {i:Nat}:∀{j:Nat},i<=j->j<=m->(HH i).n<=(HH j).n
  | 0, h, _ => by have : i = 0 := by omega
                  subst this;exact Nat.le_refl _
  | j + 1, h, hj => by
    by_cases e:i=j+1
    · subst e;exact Nat.le_refl _
    · exact Nat.le_trans (trc_mono h1 (by omega) (by omega)) (h1 j (by omega))
theorem trc_slot {ih:CH} {all:List Oper} {S:Nat->GF} {HH:Nat->GH} {gg:Nat->GV} (T:Trc tb ih all all S HH gg) {t:Nat} {g:GV}:∀k,k<=all.length->glk (S k) t=some g->
  (∃i o,i<k∧all[i]? = some o∧o.dst=some t∧gg i=g∧∀j oj,i<j->j<k->all[j]? = some oj->oj.dst≠some t)∨((∀j oj,j<k->all[j]? = some oj->oj.dst≠some t)∧glk (S 0) t=some g)
 |0,_,h=> .inr ⟨fun j oj hj=>by omega,h⟩
 | k + 1, hk, h => by
  have hget:all[k]? = some all[k]:=List.getElem?_eq_getElem (by omega)
  rw[T.up k _ hget]at h
  have old:all[k].dst≠some t->glk (S k) t=some g->_:=fun hne h=>
   match trc_slot T k (by omega) h with
   | .inl ⟨i, o, h1, h2, h3, h4, h5⟩ => (.inl ⟨i, o, by omega, h2, h3, h4, fun j oj hij hj hoj => by
     by_cases e:j=k
     ·subst e;rw[hget]at hoj;cases hoj;exact hne
     ·exact h5 j oj hij (by omega) hoj⟩:(∃i o,i<k+1∧all[i]? = some o∧o.dst=some t∧gg i=g∧∀j oj,i<j->j<k+1->all[j]? = some oj->oj.dst≠some t)∨((∀j oj,j<k+1->all[j]? = some oj->oj.dst≠some t)∧glk (S 0) t=some g))
   | .inr ⟨h1, h2⟩ => .inr ⟨fun j oj hj hoj => by
     by_cases e:j=k
     ·subst e;rw[hget]at hoj;cases hoj;exact hne
     ·exact h1 j oj (by omega) hoj,h2⟩
  cases hd:all[k].dst with
  |none=>
   rw[hd]at h
   exact old (by rw[hd];simp) h
  | some d =>
   rw[hd]at h
   have h:glk ((d,gg k)::S k) t=some g:=h
   rw[glk_cons]at h
   by_cases e:t=d
   ·subst e
    rw[if_pos rfl]at h;cases h
    exact .inl ⟨k,_,by omega,hget,hd,rfl,fun j oj h1 h2=>by omega⟩
   ·rw[if_neg e]at h
    exact old (by rw[hd];intro e';cases e';exact e rfl) h

def loudF (o:Op):Bool:=loudOp o && !isFloat o
def loose (tb:TB) (x o:Op):Bool:=pureOp tb x||pureOp tb o||isFloat o||(!loudOp x && !loudOp o)||(isLoad x&&loudOp o)||(loudF x&&isLoad o)
def chkF (tb:TB) (l:List Oper) (m:List Nat):Bool:=
 (List.range l.length).all fun i=>match l[i]? with
  |none=>false
  |some o=>
   (edges o).all (fun e=>Nat.blt e i&&before m i e&&(List.range i).all (fun k=> !before m e k||before m i k)) &&
   (List.range l.length).all (fun k=> !before m i k||(Nat.blt k i&&(edges o).any (fun e=>Nat.beq e k||before m e k))) &&
   !isSelect o.op &&
   (List.range i).all (fun x=>before m i x||(match l[x]? with|none=>false|some ox=>ox.apart l.toArray o&&loose tb ox.op o.op))
structure ChkF (tb:TB) (l:List Oper) (m:List Nat):Prop where
 edge:∀(i:Nat) (o:Oper),l[i]? = some o->∀e∈edges o,e<i∧before m i e=true
 trans:∀(i:Nat) (o:Oper),l[i]? = some o->∀k,before m i k=true->k<l.length->k<i∧∃e∈edges o,e=k∨before m e k=true
 ind:∀(i x:Nat) (oi ox:Oper),l[i]? = some oi->l[x]? = some ox->x<i->before m i x=false->ox.apart l.toArray oi=true∧loose tb ox.op oi.op=true
theorem chkF_spec {l:List Oper} {m:List Nat} (h:chkF tb l m=true):ChkF tb l m:=by
 have key:∀(i:Nat) (o:Oper),l[i]? = some o->
   ((edges o).all (fun e=>Nat.blt e i&&before m i e&&(List.range i).all (fun k=> !before m e k||before m i k))=true)∧
   ((List.range l.length).all (fun k=> !before m i k||(Nat.blt k i&&(edges o).any (fun e=>Nat.beq e k||before m e k)))=true)∧isSelect o.op=false∧
   ((List.range i).all (fun x=>before m i x||(match l[x]? with|none=>false|some ox=>ox.apart l.toArray o&&loose tb ox.op o.op))=true):=by
  intro i o ho
  have:=List.all_eq_true.1 h i (List.mem_range.2 (getElem?_lt ho))
  simp only[ho,Bool.and_eq_true,Bool.not_eq_true']at this
  exact⟨this.1.1.1,this.1.1.2,this.1.2,this.2⟩
 refine⟨?_,?_,?_⟩
 ·intro i o ho e he
  have:=List.all_eq_true.1 (key i o ho).1 e he
  simp only[Bool.and_eq_true,Nat.blt_eq]at this
  exact⟨this.1.1,this.1.2⟩
 ·intro i o ho k hk hlt
  have:=List.all_eq_true.1 (key i o ho).2.1 k (List.mem_range.2 hlt)
  simp only[hk,Bool.not_true,Bool.false_or,Bool.and_eq_true,Nat.blt_eq,List.any_eq_true,Bool.or_eq_true]at this
  obtain⟨h1,e,he,h2⟩:=this
  refine⟨h1,e,he,?_⟩
  rcases h2 with h2|h2
  ·exact .inl (Nat.eq_of_beq_eq_true h2)
  ·exact .inr h2
 ·intro i x oi ox hi hx hlt hb
  have:=(key i oi hi).2.2.2
  have:=List.all_eq_true.1 this x (List.mem_range.2 hlt)
  simp only[hb,Bool.false_or,hx,Bool.and_eq_true]at this
  exact this

theorem float_trc {ih:CH} (hG:TabOk P tb) {all:List Oper} {n:Nat} {o:Oper} {σ:GF} {H H':GH} {g:GV} {ρ:Rho} {a:Act} (hf:isFloat o.op=true) (F:FrOk ρ n σ a) (h:evO1 tb ih all o σ H=some (g,H')):
  (Region.wanted o (yielded all.toArray a.tmps)=false∧g = .un∧H'=H)∨
  (Region.wanted o (yielded all.toArray a.tmps)=true∧∃cs a' T',H'=H.new (.cells cs)∧RlC ρ cs a'∧cs.length=a'.size∧∀w:World,∃V,(execOp a.eval o).run P w = .ok (.value V) (w.alloc (.cells a' T'))∧∀ρ':Rho,ρ' H.n=some ⟨w.heap.size,0,a'.size,.cells a' T',.cells cs⟩->Rl ρ' g V):=by
 rcases evO1_want F h with⟨hw,hg⟩|h
 ·refine .inr ⟨hw,?_⟩
  obtain⟨d,op,ty,pos,aft,gd⟩:=o
  cases op with
  |buildSlice T m ps=>
   obtain⟨vs,hvs,hg⟩:=ob_some.1 (show ob (gparts σ ps.toList) _=some (g,H')from hg)
   obtain⟨g',H'',hg,hk⟩:=kOR_some hg
   cases hk
   obtain⟨cs,a',T',len,sz,h1,h2,h3,h4,h5⟩:=vBuildS_raw (P:=P) hG (gparts_ok F hvs) hg
   refine⟨cs,a',T',h1,h3,h4,fun w=> ?_⟩
   obtain⟨V,hr,hv⟩:=h5 w
   refine⟨V,?_,hv⟩
   have e:(ps.toList.map fun p=>(p.1,a.eval p.2)).toArray=ps.map fun p=>(p.1,a.eval p.2):=by apply Array.toList_inj.1;simp
   rw[e]at hr
   simp[execOp,hr]
  |alloc T=>
   obtain⟨g',H'',hg,hk⟩:=kOR_some (show kOR (vAlloc tb T H) orK=some (g,H')from hg)
   cases hk
   obtain⟨zc,hz,hg⟩:=ob_some.1 (show ob (zeroOf tb T) _=some (g,H')from hg)
   rw[GH.newK_eq]at hg;cases hg
   obtain⟨d,hd,hT,hC⟩:=zeroOf_ok (ρ:=ρ) hG hz
   refine⟨zc,d.zero.cells,T,rfl,hC,by have:=hC.r.len;simpa using this,fun w=>⟨_,?_,fun ρ' hρ=> .ptr (l:=⟨w.heap.size,0,d.zero.cells.size,.cells d.zero.cells T,.cells zc⟩) 0 hρ⟩⟩
   simp[execOp,run_alloc w hT]
  |box T x=>
   obtain⟨v,hv,hg⟩:=ob_some.1 (show ob (gev σ x) (fun v=>kOR (vBox v H) orK)=some (g,H')from hg)
   obtain⟨g',H'',hg,hk⟩:=kOR_some hg
   cases hk
   obtain⟨vc,hc,hg⟩:=ob_some.1 (show ob v.cells _=some (g,H')from hg)
   rw[GH.newK_eq]at hg;cases hg
   obtain⟨vs,e,hr,h1⟩:=(gev_ok F hv).cells hc
   refine⟨vc,(a.eval x).cells,T,rfl,by rw[e];exact⟨hr,h1⟩,by rw[e];have:=hr.len;simpa using this,fun w=>⟨_,?_,fun ρ' hρ=> .ptr (l:=⟨w.heap.size,0,(a.eval x).cells.size,.cells (a.eval x).cells T,.cells vc⟩) 0 hρ⟩⟩
   simp[execOp,Instr.box,newVar,newRow]
  |_=>cases hf
 ·exact .inl h
end
end Go.Gx
end
section
namespace Go.Gx
open Go Go.Sx Go.RowKit
def jnR (ρ pm:Rho):Rho:=fun h=>match ρ h with
 |some l=>some l
 |none=>pm h
theorem jnR_some {ρ pm:Rho} {h:Nat} {l:Loc} (e:ρ h=some l):jnR ρ pm h=some l:=by simp[jnR,e]
theorem jnR_none {ρ pm:Rho} {h:Nat} (e:ρ h=none):jnR ρ pm h=pm h:=by simp[jnR,e]
theorem jnR_left {ρ pm:Rho}:ρ.le (jnR ρ pm):=fun _ _ e=>jnR_some e
def SlD (all:List Oper) (S0:GF) (gg:Nat->GV) (D:Nat->Bool) (t:Nat) (g:GV):Prop:=
 (∃i o,D i=true∧all[i]? = some o∧o.dst=some t∧gg i=g∧∀j oj,D j=true->all[j]? = some oj->oj.dst=some t->j<=i)∨((∀j oj,D j=true->all[j]? = some oj->oj.dst≠some t)∧glk S0 t=some g)
def ins (D:Nat->Bool) (k:Nat):Nat->Bool:=fun j=>j==k||D j
theorem ins_self (D:Nat->Bool) (k:Nat):ins D k k=true:=by simp[ins]
theorem ins_ne {D:Nat->Bool} {k j:Nat} (h:j≠k):ins D k j=D j:=by simp[ins,h]
theorem ins_of {D:Nat->Bool} {k j:Nat} (h:D j=true):ins D k j=true:=by simp[ins,h]
noncomputable def restr (σ:GF) (L:List Nat):GF:=L.filterMap fun t=>(glk σ t).map fun g=>(t,g)
theorem glk_restr {σ:GF} {t:Nat}:∀{L:List Nat},glk (restr σ L) t=if t∈L then glk σ t else none
 | []=>rfl
 | x :: L => by
  have ih:=glk_restr (σ:=σ) (t:=t) (L:=L)
  cases hx:glk σ x with
  |none=>
   have e:restr σ (x::L)=restr σ L:=by simp[restr,hx]
   rw[e,ih]
   by_cases e1:t=x
   ·subst e1;simp[hx]
   ·simp[e1]
  |some g=>
   have e:restr σ (x::L)=(x,g)::restr σ L:=by simp[restr,hx]
   rw[e,glk_cons,ih]
   by_cases e1:t=x
   ·subst e1;simp[hx]
   ·simp[e1]
section
variable {P:Program} {tb:TB} {gs:Gls} {w0:Base gs} {ih:CH} {all:List Oper} {n:Nat} {S:Nat->GF} {HH:Nat->GH} {gg:Nat->GV}
structure FEnv (P:Program) (tb:TB) {gs:Gls} (w0:Base gs) (ih:CH) (all:List Oper) (n:Nat) (S:Nat->GF) (HH:Nat->GH) (gg:Nat->GV):Prop where
 tab:TabOk P tb
 call:∀w0:Base gs,CallOk P w0 ih
 ops:all.all (okOp n)=true
 chk:ChkF tb all (masks all)
 trc:Trc tb ih all all S HH gg
 vrs:∀k ok h v,all[k]? = some ok->isLoad ok.op=true->ldH (S k) ok.op=some h->(HH k).ver h=some v->
  (∀j oj,j<k->all[j]? = some oj->loudOp oj.op=true->before (masks all) k j=false->(HH j).ver h=some v)∧(∀j oj,k<j->all[j]? = some oj->loudOp oj.op=true->before (masks all) j k=false->(HH (j+1)).ver h=some v)
 chain:∃ρs:Nat->Rho,(∀i,i<=all.length->∃a w,Rel w0 (ρs i) (HH i) w∧FrOk (ρs i) n (S i) a)∧∀i,i<all.length->(ρs i).le (ρs (i+1))
theorem FEnv.ghost (E:FEnv P tb w0 ih all n S HH gg) (i:Nat) (hi:i<=all.length):∃ρ a w,Rel w0 ρ (HH i) w∧FrOk ρ n (S i) a:=
 let ⟨ρs,h,_⟩:=E.chain
 ⟨ρs i,h i hi⟩
theorem FEnv.mono (E:FEnv P tb w0 ih all n S HH gg) (i:Nat) (hi:i<all.length):(HH i).n<=(HH (i+1)).n:=by
 obtain⟨ρs,h,hle⟩:=E.chain
 obtain⟨_,_,R1,_⟩:=h i (Nat.le_of_lt hi)
 obtain⟨_,_,R2,_⟩:=h (i+1) hi
 exact R1.mono R2 (hle i hi)
theorem chain_le {ρs:Nat->Rho} {m:Nat} (h:∀i,i<m->(ρs i).le (ρs (i+1))) {i:Nat}:∀{j:Nat},i<=j->j<=m->(ρs i).le (ρs j)
  | 0, h1, _ => by have : i = 0 := by omega
                   subst this;exact Rho.le_refl _
  | j + 1, h1, hj => by
    by_cases e:i=j+1
    · subst e;exact Rho.le_refl _
    · exact Rho.le_trans (chain_le h (by omega) (by omega)) (h j (by omega))
theorem FEnv.same (E:FEnv P tb w0 ih all n S HH gg) {i j:Nat} (hij:i<=j) (hj:j<=all.length) {h v:Nat} (h1:(HH i).ver h=some v) (h2:(HH j).ver h=some v):(HH i).get h=(HH j).get h:=by
 obtain⟨ρs,hg,hle⟩:=E.chain
 have hc:=chain_le hle hij hj
 obtain⟨_,w1,R1,_⟩:=hg i (by omega)
 obtain⟨_,w2,R2,_⟩:=hg j hj
 have live:∀{k:Nat},(HH k).ver h=some v->∃o,(HH k).get h=some o:=fun {k} hv=>by
  obtain⟨p,hp,_⟩:=ob_some.1 (show ob ((HH k).t.get h) _=some v from hv)
  exact⟨p.2,by unfold GH.get;rw[hp];rfl⟩
 obtain⟨o1,ho1⟩:=live h1
 obtain⟨o2,ho2⟩:=live h2
 obtain⟨l1,hl1,_⟩:=R1.live h o1 ho1
 obtain⟨l2,hl2,_⟩:=R2.live h o2 ho2
 obtain⟨lv1,a1,_,b1⟩:=R1.vers h v l1 h1 hl1
 obtain⟨lv2,a2,_,b2⟩:=R2.vers h v l2 h2 hl2
 have:=hc _ _ a1
 rw[a2]at this;cases this
 rw[b1,b2]
theorem FEnv.op (E:FEnv P tb w0 ih all n S HH gg) {k:Nat} {o:Oper} (hk:all[k]? = some o):okOp n o=true:=List.all_eq_true.1 E.ops o (List.mem_of_getElem? hk)
theorem FEnv.quiet (E:FEnv P tb w0 ih all n S HH gg) {k:Nat} {o:Oper} (hk:all[k]? = some o) (hq:loudOp o.op=false):HH (k+1)=HH k:=by
 obtain⟨ρ,a,w,R,F⟩:=E.ghost k (Nat.le_of_lt (getElem?_lt hk))
 rcases evO1_ok E.tab (E.call w0) (E.op hk) F R (E.trc.st k o hk)with⟨_,hs⟩|⟨_,_,h⟩
 ·rcases hs with⟨_,_,_,h,_⟩|⟨_,_,h,_⟩|⟨_,_,h,_⟩|⟨h,_⟩
  ·exact h
  ·exact h
  ·exact h
  ·rw[hq]at h;cases h
 ·exact h
theorem FEnv.floats (E:FEnv P tb w0 ih all n S HH gg) {k:Nat} {o:Oper} (hk:all[k]? = some o) (hf:isFloat o.op=true):HH (k+1)=HH k∨∃cs,HH (k+1)=(HH k).new (.cells cs):=by
 obtain⟨ρ,a,w,R,F⟩:=E.ghost k (Nat.le_of_lt (getElem?_lt hk))
 rcases float_trc (P:=P) E.tab hf F (E.trc.st k o hk)with⟨_,_,h⟩|⟨_,cs,_,_,h,_⟩
 ·exact .inl h
 ·exact .inr ⟨cs,h⟩
theorem new_ne {H:GH} {o:GO} (h:H=H.new o):False:=by
 have:H.n=H.n+1:=congrArg GH.n h
 omega
theorem new_cells {H:GH} {c c':List GV} (h:H.new (.cells c)=H.new (.cells c')):c=c':=by
 have h1:=GH.get_new H (.cells c) H.n
 have h2:=GH.get_new H (.cells c') H.n
 rw[if_pos rfl]at h1 h2
 rw[h,h2]at h1
 cases h1;rfl
theorem FEnv.mono' (E:FEnv P tb w0 ih all n S HH gg) {i j:Nat} (h:i<=j) (hj:j<=all.length):(HH i).n<=(HH j).n:=trc_mono E.mono h hj
theorem FEnv.apart (E:FEnv P tb w0 ih all n S HH gg) {i j:Nat} {ci cj:List GV} (hi:i<all.length) (hj:j<all.length) (ei:HH (i+1)=(HH i).new (.cells ci)) (ej:HH (j+1)=(HH j).new (.cells cj)) (h:(HH i).n=(HH j).n):i=j:=by
 have ei':(HH (i+1)).n=(HH i).n+1:=by rw[ei];rfl
 have ej':(HH (j+1)).n=(HH j).n+1:=by rw[ej];rfl
 rcases Nat.lt_trichotomy i j with h1|h1|h1
 ·have:=E.mono' (i:=i+1) (j:=j) (by omega) (by omega);omega
 ·exact h1
 ·have:=E.mono' (i:=j+1) (j:=i) (by omega) (by omega);omega
structure FInv {gs:Gls} (w0:Base gs) (ρb:Rho) (n:Nat) (all:List Oper) (S0:GF) (HH:Nat->GH) (gg:Nat->GV) (D:Nat->Bool) (a:Act) (w:World) (t:Nat) (ρ pm:Rho):Prop where
 tm:t<=all.length
 lou:∀j o,all[j]? = some o->loudF o.op=true->(D j=true↔j<t)
 flo:∀j o,all[j]? = some o->isFloat o.op=true->j<t->D j=true
 rel:Rel w0 ρ (HH t) w
 up:ρb.le ρ
 defers:a.defers=[]
 size:a.tmps.size=n
 slot:∀s g,SlD all S0 gg D s g->Rl (jnR ρ pm) g (a.eval (.tmp s))
 pend:∀i o cs,all[i]? = some o->isFloat o.op=true->HH (i+1)=(HH i).new (.cells cs)->t<=i->D i=true->∃l,pm (HH i).n=some l∧w0.mine l.b∧¬Held ρ (HH t) l.b∧w.heap[l.b]? = some l.x∧ObjOk (jnR ρ pm) w l (.cells cs)∧l.o = .cells cs
 only:∀h l,pm h=some l->∃i o cs,all[i]? = some o∧isFloat o.op=true∧HH (i+1)=(HH i).new (.cells cs)∧t<=i∧D i=true∧h=(HH i).n
 inj:∀h h' l l',pm h=some l->pm h'=some l'->l.b=l'.b->h=h'
variable {D:Nat->Bool} {a:Act} {w:World} {t:Nat} {ρ pm ρb:Rho}
theorem FInv.low (E:FEnv P tb w0 ih all n S HH gg) (I:FInv w0 ρb n all (S 0) HH gg D a w t ρ pm) {h:Nat} {l:Loc} (hp:pm h=some l):(HH t).n<=h:=by
 obtain⟨i,o,cs,h1,_,_,h4,_,rfl⟩:=I.only h l hp
 exact E.mono' h4 (Nat.le_of_lt (getElem?_lt h1))
theorem FInv.adopt (E:FEnv P tb w0 ih all n S HH gg) (I:FInv w0 ρb n all (S 0) HH gg D a w t ρ pm) {o:Oper} (ho:all[t]? = some o) (hl:loudF o.op=false) (hf:isFloat o.op=true->D t=true):
  ∃ρ' pm',FInv w0 ρb n all (S 0) HH gg D a w (t+1) ρ' pm'∧jnR ρ' pm'=jnR ρ pm:=by
 have ht:=getElem?_lt ho
 have lou':∀j o,all[j]? = some o->loudF o.op=true->(D j=true↔j<t+1):=fun j oj hj hlj=>by
  have hne:j≠t:=fun e=>by subst e;rw[ho]at hj;cases hj;rw[hl]at hlj;cases hlj
  rw[I.lou j oj hj hlj];omega
 have flo':∀j o,all[j]? = some o->isFloat o.op=true->j<t+1->D j=true:=fun j oj hj hfj hlt=>by
  by_cases e:j=t
  ·subst e;rw[ho]at hj;cases hj;exact hf hfj
  ·exact I.flo j oj hj hfj (by omega)
 -- nothing is taken up
 have same:HH (t+1)=HH t->∃ρ' pm',FInv w0 ρb n all (S 0) HH gg D a w (t+1) ρ' pm'∧jnR ρ' pm'=jnR ρ pm:=fun e=>
  ⟨ρ,pm,⟨ht,lou',flo',by rw[e];exact I.rel,I.up,I.defers,I.size,I.slot,fun i oi cs h1 h2 h3 h4 h5=>by rw[e];exact I.pend i oi cs h1 h2 h3 (by omega) h5,fun h l hp=>by
   obtain⟨i,oi,cs,h1,h2,h3,h4,h5,h6⟩:=I.only h l hp
   refine⟨i,oi,cs,h1,h2,h3,?_,h5,h6⟩
   by_cases e':i=t
   ·subst e';rw[e]at h3;exact(new_ne h3).elim
   ·omega,I.inj⟩,rfl⟩
 cases hfl:isFloat o.op with
 |false=>exact same (E.quiet ho (by simpa [loudF,hfl]using hl))
 | true =>
  rcases E.floats ho hfl with e|⟨cs,e⟩
  ·exact same e
  obtain⟨l,hp,hmine,hheld,hx,hobj,hlo⟩:=I.pend t o cs ho hfl e (Nat.le_refl _) (hf hfl)
  have hfresh:ρ (HH t).n=none:=I.rel.fresh _ (Nat.le_refl _)
  let ρ':=ρ.upd (HH t).n l
  let pm':Rho:=fun h=>if h=(HH t).n then none else pm h
  have hself:ρ' (HH t).n=some l:=by simp[ρ',Rho.upd]
  have hoth:∀h,h≠(HH t).n->ρ' h=ρ h:=fun h hh=>by simp[ρ',Rho.upd,hh]
  have hjn:jnR ρ' pm'=jnR ρ pm:=by
   funext h
   by_cases eh:h=(HH t).n
   ·subst eh;rw[jnR_some hself,jnR_none hfresh,hp]
   ·unfold jnR;rw[hoth h eh];simp[pm',eh]
  have hn:(HH (t+1)).n=(HH t).n+1:=by rw[e];rfl
  -- what the object holds is older
  have hcut:∀{g:GV} {v v0:Value} {ρ0:Rho},(∀h l,ρ0 h=some l->h<(HH (t+1)).n)->Rl (jnR ρ pm) g v->Rl ρ0 g v0->Rl ρ' g v:=fun {g v v0 ρ0} hlow h1 h0=>by
   refine Rl.cut (fun h l0 l1 e0 e1=> ?_) h1 h0
   have hlt:=hlow h l0 e0
   by_cases eh:h=(HH t).n
   ·subst eh;rw[jnR_none hfresh,hp]at e1;rw[hself];exact e1
   ·rw[hoth h eh]
    cases hr:ρ h with
    |some l2=>rw[jnR_some hr]at e1;exact e1
    |none=>
     rw[jnR_none hr]at e1
     have:=I.low E e1
     omega
  obtain⟨ρ0,a0,wg,R0,F0⟩:=E.ghost (t+1) ht
  have hlow0:∀h l,ρ0 h=some l->h<(HH (t+1)).n:=fun h l hl=>by
   rcases Nat.lt_or_ge h (HH (t+1)).n with h'|h'
   ·exact h'
   ·rw[R0.fresh h h']at hl;cases hl
  have hgetn:(HH (t+1)).get (HH t).n=some (.cells cs):=by rw[e,GH.get_new,if_pos rfl]
  obtain⟨l0,_,_,hob0⟩:=R0.live _ _ hgetn
  obtain⟨cur0,T0,q1,q2,q3,q4⟩:=hob0
  have hobj':ObjOk ρ' w l (.cells cs):=by
   obtain⟨cur,T,p1,p2,p3,p4⟩:=hobj
   refine⟨cur,T,p1,p2,p3,fun i g hg=> ?_⟩
   obtain⟨v,r1,r2,r3⟩:=p4 i g hg
   obtain⟨v0,_,s2,_⟩:=q4 i g hg
   exact⟨v,r1,hcut hlow0 r2 s2,r3⟩
  obtain⟨hle,R'⟩:=I.rel.new (o:= .cells cs) (l:=l) I.rel.ext (fun h o' l' hg hl'=>⟨rfl,fun eb=>hheld ⟨h,o',l',hg,hl',eb⟩⟩) hmine hobj' hx hlo
  rw[<-e]at R'
  refine⟨ρ',pm',⟨ht,lou',flo',R',Rho.le_trans I.up hle,I.defers,I.size,fun s g hs=>by rw[hjn];exact I.slot s g hs,fun i oi ci h1 h2 h3 h4 h5=> ?_,fun h l1 hp1=> ?_,fun h h' l1 l2 h1 h2 hb=> ?_⟩,hjn⟩
  ·obtain⟨li,a1,a2,a3,a4,a5,a6⟩:=I.pend i oi ci h1 h2 h3 (by omega) h5
   have hne:(HH i).n≠(HH t).n:=fun eh=>by
    have:=E.apart (getElem?_lt h1) ht h3 e eh;omega
   refine⟨li,by simp[pm',hne,a1],a2,?_,a4,by rw[hjn];exact a5,a6⟩
   rintro⟨h,o',l',hg,hl',eb⟩
   rw[e,GH.get_new]at hg
   by_cases eh:h=(HH t).n
   ·subst eh;rw[hself]at hl';cases hl'
    exact hne (I.inj _ _ _ _ a1 hp eb.symm)
   ·rw[if_neg eh]at hg
    rw[hoth h eh]at hl'
    exact a3 ⟨h,o',l',hg,hl',eb⟩
  ·have hne:h≠(HH t).n:=fun eh=>by subst eh;simp[pm']at hp1
   have hp1:pm h=some l1:=by simpa [pm',hne]using hp1
   obtain⟨i,oi,ci,h1,h2,h3,h4,h5,h6⟩:=I.only h l1 hp1
   refine⟨i,oi,ci,h1,h2,h3,?_,h5,h6⟩
   by_cases e':i=t
   ·subst e';exact absurd h6 hne
   ·omega
  ·have h1:pm h=some l1:=by
    by_cases eh:h=(HH t).n
    ·simp[pm',eh]at h1
    ·simpa [pm',eh]using h1
   have h2:pm h'=some l2:=by
    by_cases eh:h'=(HH t).n
    ·simp[pm',eh]at h2
    ·simpa [pm',eh]using h2
   exact I.inj h h' l1 l2 h1 h2 hb
theorem FInv.adoptTo (E:FEnv P tb w0 ih all n S HH gg):∀(d t k:Nat) (ρ pm:Rho),FInv w0 ρb n all (S 0) HH gg D a w t ρ pm->t+d=k->k<=all.length->(∀j o,t<=j->j<k->all[j]? = some o->loudF o.op=false∧(isFloat o.op=true->D j=true))->
  ∃ρ' pm',FInv w0 ρb n all (S 0) HH gg D a w k ρ' pm'∧jnR ρ' pm'=jnR ρ pm
 |0,t,k,ρ,pm,I,hd,hk,_=>by
  have:t=k:=by omega
  subst this
  exact⟨ρ,pm,I,rfl⟩
 |d+1,t,k,ρ,pm,I,hd,hk,h=>by
  have ho:all[t]? = some all[t]:=List.getElem?_eq_getElem (by omega)
  obtain⟨h1,h2⟩:=h t _ (Nat.le_refl _) (by omega) ho
  obtain⟨ρ1,pm1,I1,e1⟩:=I.adopt E ho h1 h2
  obtain⟨ρ2,pm2,I2,e2⟩:=FInv.adoptTo E d (t+1) k ρ1 pm1 I1 (by omega) hk (fun j o h1 h2=>h j o (by omega) h2)
  exact⟨ρ2,pm2,I2,by rw[e2,e1]⟩
def Cl (all:List Oper) (D:Nat->Bool):Prop:=∀j k,D j=true->before (masks all) j k=true->k<all.length->D k=true
structure Rdy (all:List Oper) (D:Nat->Bool) (k:Nat) (o:Oper):Prop where
 get:all[k]? = some o
 undone:D k=false
 past:∀j,before (masks all) k j=true->j<all.length->D j=true
theorem Rdy.behind (C:ChkF tb all (masks all)) (hcl:Cl all D) {k:Nat} {o:Oper} (hr:Rdy all D k o) {j:Nat} {oj:Oper} (hj:all[j]? = some oj) (hD:D j=true) (hlt:k<j):o.apart all.toArray oj=true∧loose tb o.op oj.op=true:=by
 cases hb:before (masks all) j k with
 |false=>exact C.ind j k oj o hj hr.get hlt hb
 |true=>
  have:=hcl j k hD hb (getElem?_lt hr.get)
  rw[hr.undone]at this;cases this
theorem Rdy.ahead (C:ChkF tb all (masks all)) {k:Nat} {o:Oper} (hr:Rdy all D k o) {j:Nat} {oj:Oper} (hj:all[j]? = some oj) (hlt:j<k):D j=true∨oj.apart all.toArray o=true∧loose tb oj.op o.op=true:=by
 cases hb:before (masks all) k j with
 |true=>exact .inl (hr.past j hb (getElem?_lt hj))
 |false=>exact .inr (C.ind k j o oj hr.get hj hlt hb)
theorem Rdy.look (E:FEnv P tb w0 ih all n S HH gg) (hcl:Cl all D) {k:Nat} {o:Oper} (hr:Rdy all D k o) {s:Nat} {g:GV} (hs:s∈o.looksAt all.toArray) (hg:glk (S k) s=some g):SlD all (S 0) gg D s g:=by
 have none_behind:∀j oj,D j=true->all[j]? = some oj->oj.dst=some s->j<k:=fun j oj hD hj hd=>by
  rcases Nat.lt_trichotomy j k with h|h|h
  ·exact h
  ·subst h;rw[hr.undone]at hD;cases hD
  ·obtain⟨h1,_⟩:=hr.behind E.chk hcl hj hD h
   exact absurd hs ((Oper.apart_spec h1).2.2 s hd)
 rcases trc_slot E.trc k (Nat.le_of_lt (getElem?_lt hr.get)) hg with⟨i,oi,h1,h2,h3,h4,h5⟩|⟨h1,h2⟩
 ·refine .inl ⟨i,oi,?_,h2,h3,h4,fun j oj hD hj hd=> ?_⟩
  ·rcases hr.ahead E.chk h2 h1 with h|⟨h,_⟩
   ·exact h
   ·exact absurd hs ((Oper.apart_spec h).1 s h3)
  ·have:=none_behind j oj hD hj hd
   rcases Nat.lt_or_ge i j with h|h
   ·exact absurd hd (h5 j oj h this hj)
   ·exact h
 ·exact .inr ⟨fun j oj hD hj hd=>h1 j oj (none_behind j oj hD hj hd) hj hd,h2⟩
theorem Rdy.slot (C:ChkF tb all (masks all)) (hcl:Cl all D) {S0:GF} {k:Nat} {o:Oper} (hr:Rdy all D k o) (hdst:∀d,o.dst=some d->d<n) (hsz:a.tmps.size=n) {ρ1 ρ2:Rho} (hle:ρ1.le ρ2) (hslot:∀s g,SlD all S0 gg D s g->Rl ρ1 g (a.eval (.tmp s))) {v:Value} (hv:Rl ρ2 (gg k) v):
  ∀s g,SlD all S0 gg (ins D k) s g->Rl ρ2 g ((a.put o.dst v).eval (.tmp s)):=fun s g hs=>by
 have behind:∀j oj,D j=true->all[j]? = some oj->o.dst=some s->oj.dst=some s->j<k:=fun j oj hD hj hd hd'=>by
  rcases Nat.lt_trichotomy j k with h|h|h
  ·exact h
  ·subst h;rw[hr.undone]at hD;cases hD
  ·obtain⟨h1,_⟩:=hr.behind C hcl hj hD h
   exact absurd hd' ((Oper.apart_spec h1).2.1 s hd)
 by_cases hd:o.dst=some s
 ·have hg:gg k=g:=by
   rcases hs with⟨i,oi,h1,h2,h3,h4,h5⟩|⟨h1,_⟩
   ·have hk:=h5 k o (ins_self D k) hr.get hd
    by_cases e:i=k
    ·subst e;exact h4
    ·rw[ins_ne e]at h1
     have:=behind i oi h1 h2 hd h3
     omega
   ·exact absurd hd (h1 k o (ins_self D k) hr.get)
  rw[hd,<-hg]
  have hs':=hdst s hd
  have:(a.put (some s) v).eval (.tmp s)=v:=by simp[Act.put,Act.eval,hsz,hs']
  rw[this];exact hv
 ·have he:(a.put o.dst v).eval (.tmp s)=a.eval (.tmp s):=Act.eval_put fun d hd' e=>by cases e;exact hd hd'
  rw[he]
  refine(hslot s g ?_).le hle
  rcases hs with⟨i,oi,h1,h2,h3,h4,h5⟩|⟨h1,h2⟩
  ·have e:i≠k:=fun e=>by subst e;rw[hr.get]at h2;cases h2;exact hd h3
   rw[ins_ne e]at h1
   exact .inl ⟨i,oi,h1,h2,h3,h4,fun j oj hD=>h5 j oj (ins_of hD)⟩
  ·exact .inr ⟨fun j oj hD=>h1 j oj (ins_of hD),h2⟩
theorem put_parts (a:Act) (d:Option Tmp) (v:Value):(a.put d v).defers=a.defers∧(a.put d v).tmps.size=a.tmps.size:=by
 cases d with
 |none=>exact⟨rfl,rfl⟩
 |some d=>exact⟨rfl,by simp[Act.put]⟩
theorem FInv.plain (E:FEnv P tb w0 ih all n S HH gg) (hcl:Cl all D) (I:FInv w0 ρb n all (S 0) HH gg D a w t ρ pm) {k:Nat} {o:Oper} (hr:Rdy all D k o) (hl:loudF o.op=false) (hf:isFloat o.op=true->HH (k+1)=HH k) {v:Value} (hv:Rl (jnR ρ pm) (gg k) v):
  FInv w0 ρb n all (S 0) HH gg (ins D k) (a.put o.dst v) w t ρ pm:=by
 obtain⟨_,hdst,_⟩:=okOp_spec (E.op hr.get)
 obtain⟨p1,p2⟩:=put_parts a o.dst v
 refine⟨I.tm,fun j oj hj hlj=> ?_,fun j oj hj hfj hlt=>ins_of (I.flo j oj hj hfj hlt),I.rel,I.up,by rw[p1];exact I.defers,by rw[p2];exact I.size,hr.slot E.chk hcl hdst I.size (Rho.le_refl _) I.slot hv,fun i oi cs h1 h2 h3 h4 h5=> ?_,fun h l hp=> ?_,I.inj⟩
 ·have e:j≠k:=fun e=>by subst e;rw[hr.get]at hj;cases hj;rw[hl]at hlj;cases hlj
  rw[ins_ne e];exact I.lou j oj hj hlj
 ·have e:i≠k:=fun e=>by
   subst e;rw[hr.get]at h1;cases h1;rw[hf h2]at h3;exact new_ne h3
  rw[ins_ne e]at h5
  exact I.pend i oi cs h1 h2 h3 h4 h5
 ·obtain⟨i,oi,cs,h1,h2,h3,h4,h5,h6⟩:=I.only h l hp
  exact⟨i,oi,cs,h1,h2,h3,h4,ins_of h5,h6⟩
def Last (all:List Oper) (D:Nat->Bool) (t:Nat):Prop:=t=0∨∃o,all[t - 1]? = some o∧loudF o.op=true∧D (t - 1)=true
theorem Last.ins {k:Nat} (h:Last all D t):Last all (ins D k) t:=by
 rcases h with h|⟨o,h1,h2,h3⟩
 ·exact .inl h
 ·exact .inr ⟨o,h1,h2,ins_of h3⟩
theorem pure_loud {o:Op} (h:pureOp tb o=true):loudOp o=false:=by
 unfold pureOp at h
 split at h<;>first|rfl|cases h
theorem float_loud {o:Op} (h:isFloat o=true):loudOp o=true:=by
 unfold isFloat at h
 split at h<;>first|rfl|cases h
theorem float_pure {o:Op} (h:isFloat o=true):pureOp tb o=false:=by
 cases hp:pureOp tb o with
 |false=>rfl
 |true=>have:=pure_loud hp;rw[float_loud h]at this;cases this
theorem FInv.reach (E:FEnv P tb w0 ih all n S HH gg) (hcl:Cl all D) (I:FInv w0 ρb n all (S 0) HH gg D a w t ρ pm) (hlast:Last all D t) {k:Nat} {o:Oper} (hr:Rdy all D k o) (hp:pureOp tb o.op=false) (hf:isFloat o.op=false) (hld:isLoad o.op=false):
  ∃ρ' pm',FInv w0 ρb n all (S 0) HH gg D a w k ρ' pm'∧jnR ρ' pm'=jnR ρ pm:=by
 have hk:=getElem?_lt hr.get
 have htk:t<=k:=by
  rcases hlast with h|⟨oj,h1,h2,h3⟩
  ·omega
  ·rcases Nat.lt_or_ge (t - 1) k with h|h
   ·omega
   ·exfalso
    by_cases e:t - 1=k
    ·rw[e,hr.undone]at h3;cases h3
    ·obtain⟨_,h4⟩:=hr.behind E.chk hcl h1 h3 (by omega)
     simp only[loudF,Bool.and_eq_true,Bool.not_eq_true']at h2
     have:pureOp tb oj.op=false:=by
      cases hq:pureOp tb oj.op with
      |false=>rfl
      |true=>have:=pure_loud hq;rw[h2.1]at this;cases this
     have hlj:isLoad oj.op=false:=by
      cases hq:isLoad oj.op with
      |false=>rfl
      |true=>rw[load_quiet hq]at h2;cases h2.1
     simp[loose,hp,this,h2.1,h2.2,hld,hlj]at h4
 refine I.adoptTo E (k - t) t k ρ pm (by omega) (by omega) fun j oj h1 h2 hj=> ?_
 have hnot:D j=true∨loudOp oj.op=false∨pureOp tb oj.op=true:=by
  rcases hr.ahead E.chk hj h2 with h|⟨_,h⟩
  ·exact .inl h
  ·simp only[loose,hp,hf,hld,Bool.or_false,Bool.and_false,Bool.or_eq_true,Bool.and_eq_true,Bool.not_eq_true']at h
   rcases h with(h|h)|h
   ·exact .inr (.inr h)
   ·exact .inr (.inl h.1)
   ·exact .inr (.inl (load_quiet h.1))
 refine⟨?_,fun hfj=> ?_⟩
 ·cases hlj:loudF oj.op with
  |false=>rfl
  |true=>
   exfalso
   have hlj':=hlj
   simp only[loudF,Bool.and_eq_true,Bool.not_eq_true']at hlj'
   rcases hnot with h|h|h
   ·have:=(I.lou j oj hj hlj).1 h;omega
   ·rw[hlj'.1]at h;cases h
   ·have:=pure_loud h;rw[hlj'.1]at this;cases this
 ·rcases hnot with h|h|h
  ·exact h
  ·rw[float_loud hfj]at h;cases h
  ·rw[float_pure hfj]at h;cases h
theorem FInv.frame (E:FEnv P tb w0 ih all n S HH gg) (hcl:Cl all D) (I:FInv w0 ρb n all (S 0) HH gg D a w t ρ pm) {k:Nat} {o:Oper} (hr:Rdy all D k o):FrOk (jnR ρ pm) n (restr (S k) (o.looksAt all.toArray)) a:=
 ⟨I.defers,I.size,fun s g hg=>by
  rw[glk_restr]at hg
  by_cases hs:s∈o.looksAt all.toArray
  ·rw[if_pos hs]at hg;exact I.slot s g (hr.look E hcl hs hg)
  ·rw[if_neg hs]at hg;cases hg⟩
theorem FInv.frame' (E:FEnv P tb w0 ih all n S HH gg) (hcl:Cl all D) {k:Nat} (I:FInv w0 ρb n all (S 0) HH gg D a w k ρ pm) {o:Oper} (hr:Rdy all D k o):FrOk ρ n (restr (S k) (o.looksAt all.toArray)) a:=by
 have F:=I.frame E hcl hr
 obtain⟨ρ0,a0,wg,R0,F0⟩:=E.ghost k (Nat.le_of_lt (getElem?_lt hr.get))
 refine⟨F.defers,F.size,fun s g hg=> ?_⟩
 have h1:=F.slot s g hg
 rw[glk_restr]at hg
 by_cases hs:s∈o.looksAt all.toArray
 ·rw[if_pos hs]at hg
  refine Rl.cut (fun h l0 l e0 e1=> ?_) h1 (F0.slot s g hg)
  cases hrr:ρ h with
  |some l2=>rw[jnR_some hrr]at e1;exact e1
  |none=>
   rw[jnR_none hrr]at e1
   have h2:=I.low E e1
   rw[R0.fresh h h2]at e0;cases e0
 ·rw[if_neg hs]at hg;cases hg
theorem FEnv.st (E:FEnv P tb w0 ih all n S HH gg) {k:Nat} {o:Oper} (hk:all[k]? = some o):evO1 tb ih all o (restr (S k) (o.looksAt all.toArray)) (HH k)=some (gg k,HH (k+1)):=by
 rw[<-E.trc.st k o hk]
 exact evO1_congr fun s hs=>by rw[glk_restr,if_pos hs]
theorem FInv.loads (E:FEnv P tb w0 ih all n S HH gg) (hcl:Cl all D) (I:FInv w0 ρb n all (S 0) HH gg D a w t ρ pm) (hlast:Last all D t) {k:Nat} {o:Oper} (hr:Rdy all D k o) (hld:isLoad o.op=true) {h:Nat} {ob:GO} (hh:ldH (S k) o.op=some h) (hob:(HH k).get h=some ob):
  ∃p ρ' pm',FInv w0 ρb n all (S 0) HH gg D a w p ρ' pm'∧jnR ρ' pm'=jnR ρ pm∧(HH p).get h=some ob:=by
 have hk:=getElem?_lt hr.get
 have hq:=load_quiet hld
 have hpu:pureOp tb o.op=false:=by cases ho:o.op<;>rw[ho]at hld<;>first|rfl|cases hld
 have hfl:isFloat o.op=false:=by cases ho:o.op<;>rw[ho]at hld<;>first|rfl|cases hld
 obtain⟨v,hv⟩:∃v,(HH k).ver h=some v:=by
  obtain⟨p,hp,_⟩:=ob_some.1 (show Gx.ob ((HH k).t.get h) _=some ob from hob)
  exact⟨p.1,by unfold GH.ver;rw[hp];rfl⟩
 obtain⟨v1,v2⟩:=E.vrs k o h v hr.get hld hh hv
 rcases Nat.lt_or_ge k t with htk|htk
 ·
  rcases hlast with e|⟨oj,h1,h2,h3⟩
  ·omega
  have hlj:=h2
  simp only[loudF,Bool.and_eq_true]at hlj
  have hb:before (masks all) (t - 1) k=false:=by
   cases hb:before (masks all) (t - 1) k with
   |false=>rfl
   |true=>have:=hcl _ _ h3 hb hk;rw[hr.undone]at this;cases this
  have hne:t - 1≠k:=fun e=>by rw[e,hr.undone]at h3;cases h3
  have:=v2 (t - 1) oj (by omega) h1 hlj.1 hb
  rw[show t - 1+1=t by omega]at this
  exact⟨t,ρ,pm,I,rfl,by rw[<-E.same (Nat.le_of_lt htk) I.tm hv this];exact hob⟩
 ·
  have first:∀d t',t'+d=k->t<=t'->(∀j oj,t<=j->j<t'->all[j]? = some oj->loudF oj.op=false)->∃p,t<=p∧p<=k∧(∀j oj,t<=j->j<p->all[j]? = some oj->loudF oj.op=false)∧(p=k∨∃op,all[p]? = some op∧loudF op.op=true):=by
   intro d
   induction d with
   |zero=>exact fun t' e ht h=>⟨t',ht,by omega,h,.inl (by omega)⟩
   | succ d ihd =>
    intro t' e ht h
    have hget:all[t']? = some all[t']:=List.getElem?_eq_getElem (by omega)
    cases hl:loudF all[t'].op with
    |true=>exact⟨t',ht,by omega,h,.inr ⟨_,hget,hl⟩⟩
    |false=>
     refine ihd (t'+1) (by omega) (by omega) fun j oj h1 h2 hj=> ?_
     by_cases e:j=t'
     ·subst e;rw[hget]at hj;cases hj;exact hl
     ·exact h j oj h1 (by omega) hj
  obtain⟨p,hp1,hp2,hp3,hp4⟩:=first (k - t) t (by omega) (Nat.le_refl _) (fun j oj h1 h2=>by omega)
  obtain⟨ρ1,pm1,I1,e1⟩:=I.adoptTo E (p - t) t p ρ pm (by omega) (by omega) fun j oj h1 h2 hj=>by
   refine⟨hp3 j oj h1 h2 hj,fun hfj=> ?_⟩
   rcases hr.ahead E.chk hj (by omega)with h|⟨_,h⟩
   ·exact h
   ·have a1:=float_pure (tb:=tb) hfj
    have a2:=float_loud hfj
    have a3:isLoad oj.op=false:=by
     cases hq2:isLoad oj.op with
     |false=>rfl
     |true=>rw[load_quiet hq2]at a2;cases a2
    have a4:loudF oj.op=false:=by simp[loudF,hfj]
    simp[loose,a1,a2,a3,a4,hpu,hfl]at h
  refine⟨p,ρ1,pm1,I1,e1,?_⟩
  rcases hp4 with e|⟨op,hop,hlp⟩
  ·rw[e];exact hob
  ·have hlj:=hlp
   simp only[loudF,Bool.and_eq_true]at hlj
   have hpk:p<k:=by
    rcases Nat.lt_or_ge p k with h|h
    ·exact h
    ·have:p=k:=by omega
     subst this;rw[hr.get]at hop;cases hop;rw[hq]at hlj;cases hlj.1
   have hb:before (masks all) k p=false:=by
    cases hb:before (masks all) k p with
    |false=>rfl
    |true=>have:=hr.past p hb (by omega);rw[I.lou p op hop hlp]at this;omega
   rw[E.same (Nat.le_of_lt hpk) (Nat.le_of_lt hk) (v1 p op hpk hop hlj.1 hb) hv];exact hob
theorem FInv.step (E:FEnv P tb w0 ih all n S HH gg) (hcl:Cl all D) (I:FInv w0 ρb n all (S 0) HH gg D a w t ρ pm) (hlast:Last all D t) {k:Nat} {o:Oper} (hr:Rdy all D k o) {Q:Exit->Act->World->Prop} {K:Act->World->Prop}
  (hK:∀a' w' t' ρ' pm',FInv w0 ρb n all (S 0) HH gg (ins D k) a' w' t' ρ' pm'->Last all (ins D k) t'->K a' w'):Sx.wpOp P all.toArray Q k K a w:=by
 have hk:=getElem?_lt hr.get
 obtain⟨_,hdst,hoa⟩:=okOp_spec (E.op hr.get)
 have hst:=E.st hr.get
 unfold Sx.wpOp
 simp only[List.getElem?_toArray,hr.get]
 cases hp:pureOp tb o.op with
 | true =>
  have hl:loudF o.op=false:=by simp[loudF,pure_loud hp]
  have hnf:isFloat o.op=false:=by
   cases hf:isFloat o.op with
   |false=>rfl
   |true=>rw[float_pure hf]at hp;cases hp
  have F:=I.frame E hcl hr
  rcases evO1_want F hst with⟨hw,hg⟩|⟨hw,hg,hH⟩
  ·rw[if_pos hw]
   have hoa':okArgs o.op=true:=by
    rcases hoa with h|⟨c,f,h1,h2⟩
    ·exact h
    ·obtain⟨cal,xs,ts⟩:=c
     simp only at h2
     rw[h1,h2]at hp;cases hp
   obtain⟨_,v,hv,hrun⟩:=gop_pure (P:=P) E.tab F hp hoa' hg
   left
   simp only[Oper.wp,hrun w,Oper.upon]
   exact hK _ _ t ρ pm (I.plain E hcl hr hl (fun h=>by rw[hnf]at h;cases h) hv) hlast.ins
  ·rw[if_neg (by rw[hw];simp)]
   exact hK _ _ t ρ pm (I.plain E hcl hr hl (fun h=>by rw[hnf]at h;cases h) (by rw[hg];exact .un)) hlast.ins
 | false =>
  cases hf:isFloat o.op with
  | true =>
   have hl:loudF o.op=false:=by simp[loudF,hf]
   have F:=I.frame E hcl hr
   rcases float_trc (P:=P) E.tab hf F hst with⟨hw,hg,hH⟩|⟨hw,cs,a',T',hH,hC,hlen,hrun⟩
   ·rw[if_neg (by rw[hw];simp)]
    exact hK _ _ t ρ pm (I.plain E hcl hr hl (fun _=>hH) (by rw[hg];exact .un)) hlast.ins
   ·rw[if_pos hw]
    obtain⟨V,hV,hrel⟩:=hrun w
    left
    simp only[Oper.wp,hV,Oper.upon]
    have htk:t<=k:=by
     rcases Nat.lt_or_ge k t with h|h
     ·have:=I.flo k o hr.get hf h;rw[hr.undone]at this;cases this
     ·exact h
    let l:Loc:=⟨w.heap.size,0,a'.size,.cells a' T',.cells cs⟩
    have e:Ext w (w.alloc (.cells a' T')):=(Below.refl _ _).alloc (Nat.le_refl _) _
    have hρ:ρ (HH k).n=none:=I.rel.fresh _ (E.mono' htk (by omega))
    have hpm:pm (HH k).n=none:=by
     cases hq:pm (HH k).n with
     |none=>rfl
     |some l1=>
      obtain⟨i,oi,ci,h1,h2,h3,h4,h5,h6⟩:=I.only _ _ hq
      have:=E.apart (getElem?_lt h1) hk h3 hH h6.symm
      subst this
      rw[hr.undone]at h5;cases h5
    let pm':=pm.upd (HH k).n l
    have hself:pm' (HH k).n=some l:=by simp[pm',Rho.upd]
    have hoth:∀h,h≠(HH k).n->pm' h=pm h:=fun h hh=>by simp[pm',Rho.upd,hh]
    have hle:(jnR ρ pm).le (jnR ρ pm'):=fun h l1 h1=>by
     cases hr1:ρ h with
     |some l2=>rw[jnR_some hr1]at h1;rw[jnR_some hr1];exact h1
     |none=>
      rw[jnR_none hr1]at h1;rw[jnR_none hr1,hoth h (fun eh=>by subst eh;rw[hpm]at h1;cases h1)];exact h1
    have hjl:jnR ρ pm' (HH k).n=some l:=by rw[jnR_none hρ,hself]
    obtain⟨p1,p2⟩:=put_parts a o.dst V
    have old:∀h l1,pm h=some l1->l1.b<w.heap.size:=fun h l1 h1=>by
     obtain⟨i,oi,ci,q1,q2,q3,q4,q5,rfl⟩:=I.only _ _ h1
     obtain⟨l2,r1,_,_,r4,_⟩:=I.pend i oi ci q1 q2 q3 q4 q5
     rw[h1]at r1;cases r1
     exact(Array.getElem?_eq_some_iff.1 r4).1
    refine hK _ _ t ρ pm' ⟨I.tm,fun j oj hj hlj=> ?_,fun j oj hj hfj hlt=>ins_of (I.flo j oj hj hfj hlt),I.rel.ext' e,I.up,by rw[p1];exact I.defers,by rw[p2];exact I.size,hr.slot E.chk hcl hdst I.size hle I.slot (hrel _ hjl),fun i oi ci h1 h2 h3 h4 h5=> ?_,fun h l1 hp1=> ?_,fun h h' l1 l2 h1 h2 hb=> ?_⟩ hlast.ins
    ·have e:j≠k:=fun e=>by subst e;rw[hr.get]at hj;cases hj;rw[hl]at hlj;cases hlj
     rw[ins_ne e];exact I.lou j oj hj hlj
    ·by_cases ei:i=k
     ·subst ei
      rw[hH]at h3
      have:=new_cells h3
      subst this
      refine⟨l,hself,.inl I.rel.ext.size,?_,heap_alloc_new w _,⟨a',T',heap_alloc_new w _,rfl,by show 0+cs.length<=a'.size;omega,fun j g hg=> ?_⟩,rfl⟩
      ·rintro⟨h,o',l',hg,hl',eb⟩
       obtain⟨l2,r1,_,r3⟩:=I.rel.live h o' hg
       rw[hl']at r1;cases r1
       have:=r3.lt
       rw[eb]at this
       exact absurd this (Nat.lt_irrefl _)
      ·obtain⟨x,hx,hrx⟩:=hC.r.get hg
       rw[Array.getElem?_toList]at hx
       exact⟨x,by show a'[0+j]? = some x;simpa using hx,hrx.le hle,getOne hC.one hx⟩
     ·rw[ins_ne ei]at h5
      obtain⟨l1,a1,a2,a3,a4,a5,a6⟩:=I.pend i oi ci h1 h2 h3 h4 h5
      have hne:(HH i).n≠(HH k).n:=fun eh=>ei (E.apart (getElem?_lt h1) hk h3 hH eh)
      have hb:=old _ _ a1
      exact⟨l1,by rw[hoth _ hne];exact a1,a2,a3,by rw[e.block _ hb];exact a4,a5.move hle (e.block _ hb),a6⟩
    ·by_cases eh:h=(HH k).n
     ·exact⟨k,o,cs,hr.get,hf,hH,htk,ins_self D k,eh⟩
     ·rw[hoth h eh]at hp1
      obtain⟨i,oi,ci,q1,q2,q3,q4,q5,q6⟩:=I.only h l1 hp1
      exact⟨i,oi,ci,q1,q2,q3,q4,ins_of q5,q6⟩
    ·by_cases eh:h=(HH k).n
     ·by_cases eh':h'=(HH k).n
      ·rw[eh,eh']
      ·rw[hoth h' eh']at h2
       subst eh;rw[hself]at h1;cases h1
       have:=old _ _ h2
       rw[<-hb]at this
       exact absurd this (Nat.lt_irrefl _)
     ·rw[hoth h eh]at h1
      by_cases eh':h'=(HH k).n
      ·subst eh';rw[hself]at h2;cases h2
       have:=old _ _ h1
       rw[hb]at this
       exact absurd this (Nat.lt_irrefl _)
      ·rw[hoth h' eh']at h2
       exact I.inj h h' l1 l2 h1 h2 hb
  | false =>
   cases hld:isLoad o.op with
   | true =>
    have hl:loudF o.op=false:=by simp[loudF,load_quiet hld]
    have F0:=I.frame E hcl hr
    rcases evO1_want F0 hst with⟨hw,hg⟩|⟨hw,hg,hH⟩
    ·rw[if_pos hw]
     have hopl:∃T x,o.op = .load T x:=by
      cases ho:o.op<;>rw[ho]at hld<;>first|exact⟨_,_,rfl⟩|cases hld
     obtain⟨T,x,hox⟩:=hopl
     rw[hox]at hg
     obtain⟨va,hva,hg⟩:=ob_some.1 (show ob (gev (restr (S k) (o.looksAt all.toArray)) x) _=some (gg k,HH (k+1))from hg)
     obtain⟨g',hld',hk'⟩:=ob_some.1 hg
     have eg:g'=gg k:=by
      have:=congrArg (fun o=>o.map Prod.fst) (show some (g',HH k)=some (gg k,HH (k+1))from hk')
      simpa using this
     rw[eg]at hld'
     obtain⟨q,hq,hc⟩:=ob_some.1 (show ob va.asP _=some (gg k)from hld')
     obtain⟨cs,hcs,hc⟩:=ob_some.1 hc
     have hget:=GH.cells_eq.1 hcs
     have hxt:∀s,x = .tmp s->s∈o.looksAt all.toArray:=fun s e=>List.mem_append_left _ (List.mem_filterMap.2 ⟨.tmp s,by rw[hox,e];simp[Op.operands],rfl⟩)
     have hva':gev (S k) x=some va:=by
      rw[<-hva]
      cases x with
      |tmp s=>
       show glk (S k) s=glk (restr (S k) (o.looksAt all.toArray)) s
       rw[glk_restr,if_pos (hxt s rfl)]
      |_=>rfl
     have hh:ldH (S k) o.op=some q.1:=by
      rw[hox]
      show ob (gev (S k) x) _=_
      rw[hva']
      show ob va.asP _=_
      rw[hq];rfl
     obtain⟨p,ρ1,pm1,I1,hj1,hgp⟩:=I.loads E hcl hlast hr hld hh hget
     have hv0:=gev_ok F0 hva
     have hv1:Rl ρ1 va (a.eval x):=by
      rw[asP_eq hq]at hv0 ⊢
      obtain⟨l,hl,e⟩:=hv0.ptr_inv
      obtain⟨l1,hl1,_⟩:=I1.rel.live _ _ hgp
      rw[<-hj1,jnR_some hl1]at hl
      cases hl
      rw[e];exact .ptr _ hl1
     have hload:vLoad tb T va (HH p)=some (gg k):=by
      show ob va.asP _=_
      rw[hq]
      show ob ((HH p).cells q.1) _=_
      rw[GH.cells_eq.2 hgp]
      exact hc
     obtain⟨X,_,l,_,_,_,hX,hrun⟩:=vLoad_ok (P:=P) E.tab I1.rel hv1 hload
     left
     have hr1:(execOp a.eval o).run P w = .ok (.value X) w:=by
      have:=hrun w rfl
      obtain⟨d,op,ty,pos,aft,gd⟩:=o
      simp only at hox
      subst hox
      simp[execOp,this]
     simp only[Oper.wp,hr1,Oper.upon]
     exact hK _ _ t ρ pm (I.plain E hcl hr hl (fun h=>by rw[hf]at h;cases h) (by rw[<-hj1];exact hX.le jnR_left)) hlast.ins
    ·rw[if_neg (by rw[hw];simp)]
     exact hK _ _ t ρ pm (I.plain E hcl hr hl (fun h=>by rw[hf]at h;cases h) (by rw[hg];exact .un)) hlast.ins
   |false=>
   obtain⟨ρ1,pm1,I1,hj1⟩:=I.reach E hcl hlast hr hp hf hld
   have F:=I1.frame' E hcl hr
   cases hlo:loudOp o.op with
   | false =>
    have hl:loudF o.op=false:=by simp[loudF,hlo]
    have fin:∀v,Rl ρ1 (gg k) v->FInv w0 ρb n all (S 0) HH gg (ins D k) (a.put o.dst v) w t ρ pm:=fun v hv=>
     I.plain E hcl hr hl (fun h=>by rw[hf]at h;cases h) (by rw[<-hj1];exact hv.le jnR_left)
    rcases evO1_ok E.tab (E.call w0) (E.op hr.get) F I1.rel hst with⟨hw,hs⟩|⟨hw,hg,hH⟩
    ·rw[if_pos hw]
     left
     rcases hs with⟨_,_,_,_,v,hv,hrun⟩|⟨_,_,_,v,_,_,_,_,_,hv,hrun⟩|⟨_,_,_,v,hv,hrun⟩|⟨hq,_⟩
     ·simp only[Oper.wp,hrun w,Oper.upon];exact hK _ _ t ρ pm (fin v hv) hlast.ins
     ·simp only[Oper.wp,hrun w rfl,Oper.upon];exact hK _ _ t ρ pm (fin v hv) hlast.ins
     ·simp only[Oper.wp,hrun,Oper.upon];exact hK _ _ t ρ pm (fin v hv) hlast.ins
     ·rw[hlo]at hq;cases hq
    ·rw[if_neg (by rw[hw];simp)]
     exact hK _ _ t ρ pm (fin undef (by rw[hg];exact .un)) hlast.ins
   | true =>
    have hl:loudF o.op=true:=by simp[loudF,hlo,hf]
    have hkn:∀(i:Nat) (oi:Oper) (ci:List GV),all[i]? = some oi->isFloat oi.op=true->i≠k:=fun i oi ci h1 h2 e=>by
     subst e;rw[hr.get]at h1;cases h1;rw[hf]at h2;cases h2
    have lou':∀j o,all[j]? = some o->loudF o.op=true->(ins D k j=true↔j<k+1):=fun j oj hj hlj=>by
     by_cases e:j=k
     ·subst e;simp[ins_self]
     ·rw[ins_ne e,I1.lou j oj hj hlj];omega
    have flo':∀j o,all[j]? = some o->isFloat o.op=true->j<k+1->ins D k j=true:=fun j oj hj hfj hlt=>by
     have:=hkn j oj [] hj hfj
     exact ins_of (I1.flo j oj hj hfj (by omega))
    have only':∀h l,pm1 h=some l->∃i o cs,all[i]? = some o∧isFloat o.op=true∧HH (i+1)=(HH i).new (.cells cs)∧k+1<=i∧ins D k i=true∧h=(HH i).n:=fun h l hp1=>by
     obtain⟨i,oi,ci,q1,q2,q3,q4,q5,q6⟩:=I1.only h l hp1
     have:=hkn i oi ci q1 q2
     exact⟨i,oi,ci,q1,q2,q3,by omega,ins_of q5,q6⟩
    have hlast':Last all (ins D k) (k+1):= .inr ⟨o,by simpa using hr.get,hl,by simp[ins_self]⟩
    rcases evO1_ok E.tab (E.call I1.rel.base) (E.op hr.get) F I1.rel.rebase hst with⟨hw,hs⟩|⟨hw,hg,hH⟩
    ·rw[if_pos hw]
     left
     rcases hs with⟨hq,_⟩|⟨hq,_⟩|⟨hq,_⟩|⟨_,hrun⟩
     ·rw[hlo]at hq;cases hq
     ·rw[hlo]at hq;cases hq
     ·rw[hlo]at hq;cases hq
     refine nwp_Q (hrun _ fun ρ2 w2 v hle R2 hv=>hK _ _ (k+1) ρ2 pm1 ?_ hlast')
     obtain⟨R3,hframe⟩:=I1.rel.back R2
     have hj:(jnR ρ1 pm1).le (jnR ρ2 pm1):=fun h l h1=>by
      cases hr1:ρ1 h with
      |some l2=>rw[jnR_some hr1]at h1;cases h1;exact jnR_some (hle _ _ hr1)
      |none=>
       rw[jnR_none hr1]at h1
       obtain⟨i,oi,ci,q1,q2,q3,q4,q5,rfl⟩:=only' h l h1
       rw[jnR_none (R2.fresh _ (E.mono' q4 (Nat.le_of_lt (getElem?_lt q1))))];exact h1
     obtain⟨p1,p2⟩:=put_parts a o.dst v
     refine⟨hk,lou',flo',R3,Rho.le_trans I1.up hle,by rw[p1];exact I1.defers,by rw[p2];exact I1.size,hr.slot E.chk hcl hdst I1.size hj I1.slot (hv.le jnR_left),fun i oi ci h1 h2 h3 h4 h5=> ?_,only',I1.inj⟩
     rw[ins_ne (hkn i oi ci h1 h2)]at h5
     obtain⟨l1,a1,a2,a3,a4,a5,a6⟩:=I1.pend i oi ci h1 h2 h3 (by omega) h5
     have hb:l1.b<w.heap.size:=(Array.getElem?_eq_some_iff.1 a4).1
     refine⟨l1,a1,a2,?_,by rw[hframe _ hb a3];exact a4,a5.move hj (hframe _ hb a3),a6⟩
     rintro⟨h,o',l',hg,hl',eb⟩
     obtain⟨l2,r1,r2,_⟩:=R2.live h o' hg
     rw[hl']at r1;cases r1
     rw[eb]at r2
     rcases r2 with r2|r2
     ·have:w.heap.size<=l1.b:=r2
      omega
     ·exact a3 r2
    ·rw[if_neg (by rw[hw];simp)]
     obtain⟨p1,p2⟩:=put_parts a o.dst undef
     refine hK _ _ (k+1) ρ1 pm1 ⟨hk,lou',flo',by rw[hH];exact I1.rel,I1.up,by rw[p1];exact I1.defers,by rw[p2];exact I1.size,hr.slot E.chk hcl hdst I1.size (Rho.le_refl _) I1.slot (by rw[hg];exact .un),fun i oi ci h1 h2 h3 h4 h5=> ?_,only',I1.inj⟩ hlast'
     rw[ins_ne (hkn i oi ci h1 h2)]at h5
     rw[hH]
     exact I1.pend i oi ci h1 h2 h3 (by omega) h5
theorem FInv.done (E:FEnv P tb w0 ih all n S HH gg) (I:FInv w0 ρb n all (S 0) HH gg D a w t ρ pm) (hall:∀i,i<all.length->D i=true):∃ρ',ρb.le ρ'∧Rel w0 ρ' (HH all.length) w∧FrOk ρ' n (S all.length) a:=by
 obtain⟨ρ1,pm1,I1,_⟩:=I.adoptTo E (all.length - t) t all.length ρ pm (by have:=I.tm;omega) (Nat.le_refl _) fun j oj h1 h2 hj=>by
  refine⟨?_,fun _=>hall j h2⟩
  cases hl:loudF oj.op with
  |false=>rfl
  |true=>have:=(I.lou j oj hj hl).1 (hall j h2);omega
 refine⟨ρ1,I1.up,I1.rel,I1.defers,I1.size,fun s g hg=> ?_⟩
 have hpm:∀h,pm1 h=none:=fun h=>by
  cases hq:pm1 h with
  |none=>rfl
  |some l=>
   obtain⟨i,oi,ci,h1,_,_,h4,_⟩:=I1.only h l hq
   have:=getElem?_lt h1;omega
 have hj:jnR ρ1 pm1=ρ1:=by
  funext h
  unfold jnR
  rw[hpm]
  cases ρ1 h<;>rfl
 have hs:SlD all (S 0) gg D s g:=by
  rcases trc_slot E.trc all.length (Nat.le_refl _) hg with⟨i,o,h1,h2,h3,h4,h5⟩|⟨h1,h2⟩
  ·refine .inl ⟨i,o,hall i h1,h2,h3,h4,fun j oj hD hj hd=> ?_⟩
   rcases Nat.lt_or_ge i j with h|h
   ·exact absurd hd (h5 j oj h (getElem?_lt hj) hj)
   ·exact h
  ·exact .inr ⟨fun j oj hD hj=>h1 j oj (getElem?_lt hj) hj,h2⟩
 have:=I1.slot s g hs
 rwa[hj]at this
theorem float_any (E:FEnv P tb w0 ih all n S HH gg) {Q:Exit->Act->World->Prop} (hQ:∀ρ' a' w',ρb.le ρ'->Rel w0 ρ' (HH all.length) w'->FrOk ρ' n (S all.length) a'->Q .normal a' w'):
  ∀(fuel:Nat) (L:List Nat) (listed:Array Bool) (a:Act) (w:World) (t:Nat) (ρ pm:Rho),L.length<=fuel->listed.size=all.length->(∀i,i<all.length->listed.getD i false=false->i∈L)->Cl all (fun j=>listed.getD j false)->
  FInv w0 ρb n all (S 0) HH gg (fun j=>listed.getD j false) a w t ρ pm->Last all (fun j=>listed.getD j false) t->Sx.wpAny P .any all.toArray Q fuel listed a w:=by
 intro fuel
 induction fuel with
 | zero =>
  intro L listed a w t ρ pm hlen hsz hmem hcl I hlast
  have hL:L=[]:=List.eq_nil_of_length_eq_zero (by omega)
  subst hL
  have hall:∀i,i<all.length->listed.getD i false=true:=fun i hi=>by
   cases hq:listed.getD i false with
   |true=>rfl
   |false=>have:=hmem i hi hq;simp at this
  refine⟨?_,?_⟩
  ·rw[List.eq_nil_iff_forall_not_mem]
   intro i hi
   obtain⟨h0,o,ho,_⟩:=mem_ready.1 hi
   have hlt:i<all.length:=by have:=(Array.getElem?_eq_some_iff.1 ho).1;simpa using this
   have:=hall i hlt
   have hs:i<listed.size:=by omega
   simp[hs]at this h0
   rw[h0]at this;cases this
  ·obtain⟨ρ',h0,h1,h2⟩:=I.done E hall
   exact hQ ρ' a w h0 h1 h2
 | succ fuel ihf =>
  intro L listed a w t ρ pm hlen hsz hmem hcl I hlast
  refine⟨fun hrd=> ?_,fun k hk=> ?_⟩
  ·have hall:∀i,i<all.length->listed.getD i false=true:=by
    intro i
    induction i using Nat.strongRecOn with
    | ind i ihi =>
     intro hi
     cases hq:listed.getD i false with
     |true=>rfl
     | false =>
      exfalso
      have ho:all[i]? = some all[i]:=List.getElem?_eq_getElem hi
      have hmr:i∈Region.ready .any all.toArray listed:=by
       refine mem_ready.2 ⟨?_,all[i],by simp,fun e he hb=> ?_⟩
       ·have hs:i<listed.size:=by omega
        simp[hs]at hq ⊢;exact hq
       ·have hee:e.on∈edges all[i]:=List.mem_map.2 ⟨e,List.mem_filter.2 ⟨by simpa using he,hb⟩,rfl⟩
        have:=(E.chk.edge i _ ho e.on hee).1
        exact ihi e.on this (by omega)
      rw[hrd]at hmr
      simp at hmr
   obtain⟨ρ',h0,h1,h2⟩:=I.done E hall
   exact hQ ρ' a w h0 h1 h2
  ·obtain⟨h0,o,ho',hedge⟩:=mem_ready.1 hk
   have ho:all[k]? = some o:=by simpa using ho'
   have hkl:k<all.length:=getElem?_lt ho
   have hks:k<listed.size:=by omega
   have h0':listed.getD k false=false:=by simp[hks]at h0 ⊢;exact h0
   have hr:Rdy all (fun j=>listed.getD j false) k o:=by
    refine⟨ho,h0',fun j hb hj=> ?_⟩
    obtain⟨_,e,he,hej⟩:=E.chk.trans k o ho j hb hj
    obtain⟨ed,hed,rfl⟩:=List.mem_map.1 he
    obtain⟨hed1,hed2⟩:=List.mem_filter.1 hed
    have hl:=hedge ed (by simpa using hed1) hed2
    rcases hej with rfl|hej
    ·exact hl
    ·exact hcl _ _ hl hej hj
   have hD:(fun j=>(listed.setIfInBounds k true).getD j false)=ins (fun j=>listed.getD j false) k:=by
    funext j
    by_cases e:j=k
    ·subst e;rw[ins_self];simp[hks]
    ·rw[ins_ne e]
     exact getD_set_ne false (Ne.symm e)
   refine I.step E hcl hlast hr fun a' w' t' ρ' pm' I' hlast'=> ?_
   refine ihf (L.erase k) _ a' w' t' ρ' pm' ?_ (by simp[hsz]) (fun i hi hq=> ?_) ?_ (by rw[hD];exact I') (by rw[hD];exact hlast')
   ·have hm:=hmem k hkl h0'
    rw[List.length_erase_of_mem hm]
    omega
   ·have e:i≠k:=fun e=>by
     subst e
     have:=congrFun hD i
     rw[ins_self]at this
     rw[hq]at this;cases this
    have:listed.getD i false=false:=by
     have:=congrFun hD i
     rw[ins_ne e]at this
     rw[<-this];exact hq
    exact(List.mem_erase_of_ne e).2 (hmem i hi this)
   ·rw[hD]
    intro j k' hj hb hk'
    by_cases e:j=k
    ·subst e;exact ins_of (hr.past k' hb hk')
    ·rw[ins_ne e]at hj
     exact ins_of (hcl j k' hj hb hk')
theorem float_region (hG:TabOk P tb) (hcall:∀w0:Base gs,CallOk P w0 ih) (hm:P.follows .mixedOrders=true) {ops:List Oper} {id:Nat} (hops:ops.all (okOp n)=true) (hc:chkF tb ops (masks ops)=true) {k:GS->RS} {s:GS} {out:Out} {ρ:Rho} {a:Act} {w:World} {Q:Exit->Act->World->Prop} (F:FrOk ρ n s.σ a) (R:Rel w0 ρ s.H w) (h:(evOps tb ih ops k ops s=some out∧ordered ops isLoad=true)∨evW tb ih ops (masks ops) k ops 0 [] [] s=some out)
  (hk:∀s' ρ' a' w',k s'=some out->ρ.le ρ'->FrOk ρ' n s'.σ a'->Rel w0 ρ' s'.H w'->Q .normal a' w'):(Code.region id ops.toArray true).wpr none P Q a w:=by
 have hnd:ops.all noDefer=true:=List.all_eq_true.2 fun o hmo=>(okOp_spec (List.all_eq_true.1 hops o hmo)).1
 obtain⟨S,HH,gg,e1,e2,T,hvrs,hout⟩:∃S HH gg,S 0=s.σ∧HH 0=s.H∧Trc tb ih ops ops S HH gg∧(∀k ok h v,ops[k]? = some ok->isLoad ok.op=true->ldH (S k) ok.op=some h->(HH k).ver h=some v->
   (∀j oj,j<k->ops[j]? = some oj->loudOp oj.op=true->before (masks ops) k j=false->(HH j).ver h=some v)∧(∀j oj,k<j->ops[j]? = some oj->loudOp oj.op=true->before (masks ops) j k=false->(HH (j+1)).ver h=some v))∧k ⟨S ops.length,HH ops.length⟩=some out:=by
  rcases h with⟨h,ho⟩|h
  ·obtain⟨S,HH,gg,e1,e2,T,hout⟩:=evOps_trc ops s h
   refine⟨S,HH,gg,e1,e2,T,fun k ok h v hk hl _ _=>⟨fun j oj hjk hj hlj hb=> ?_,fun j oj hjk hj hlj hb=> ?_⟩,hout⟩
   ·rcases ordered_spec ho hk hj hl hlj with h1|h1
    ·rw[h1]at hb;cases hb
    ·have:=((chkF_spec hc).trans j oj hj k h1 (getElem?_lt hk)).1;omega
   ·rcases ordered_spec ho hk hj hl hlj with h1|h1
    ·have:=((chkF_spec hc).trans k ok hk j h1 (getElem?_lt hj)).1;omega
    ·rw[h1]at hb;cases hb
  ·obtain⟨S,HH,gg,e1,e2,T,V,hout⟩:=evW_trc ops 0 [] [] s h
   exact⟨S,HH,gg,e1,e2,T,fun k ok h v hk hl hh hv=>by have:=V.lo k ok h v hk hl hh hv;simpa using this,hout⟩
 rw[<-e1]at F
 rw[<-e2]at R
 have E:FEnv P tb w0 ih ops n S HH gg:=⟨hG,hcall,hops,chkF_spec hc,T,hvrs,trc_ghost hG (hcall w0) hops T F R _ (Nat.le_refl _)⟩
 have hD:∀j,(Array.replicate ops.length false).getD j false=false:=fun j=>by
  by_cases h:j<ops.length<;>simp[h]
 refine wpr_region_any hnd hm ?_
 have hsz:ops.toArray.size=ops.length:=by simp
 rw[hsz]
 refine float_any (ρb:=ρ) E (fun ρ' a' w' h0 h1 h2=>hk ⟨S ops.length,HH ops.length⟩ ρ' a' w' hout h0 h2 h1) ops.length (List.range ops.length) _ a _ 0 ρ (fun _=>none) (by simp) (by simp) (fun i hi _=>List.mem_range.2 hi) (fun j k' hj=>by simp only[hD]at hj;cases hj) ?_ (.inl rfl)
 refine⟨Nat.zero_le _,fun j o _ _=>by simp only[hD];simp,fun j o _ _ h=>absurd h (Nat.not_lt_zero j),R.ext' ((Below.refl _ _).drew),Rho.le_refl _,F.defers,F.size,fun s' g hs=> ?_,fun i o cs _ _ _ _ h5=>(by simp only[hD]at h5;cases h5),fun h l hp=>(by cases hp),fun h h' l l' hp=>(by cases hp)⟩
 rcases hs with⟨i,o,h1,_⟩|⟨_,h2⟩
 ·simp only[hD]at h1;cases h1
 ·exact(F.slot s' g h2).le jnR_left
end
end Go.Gx
end
