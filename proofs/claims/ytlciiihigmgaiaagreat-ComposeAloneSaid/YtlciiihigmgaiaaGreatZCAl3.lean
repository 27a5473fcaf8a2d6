/- Models and proofs. Conditions: none. -/
import Derived.Test.YtlciiihigmgaiaaGreatZCAl2
import Derived.Lib.Strings
import Derived.Lib.AppendZeros
import Derived.Laws.CopyRow
import Derived.Laws.StructEq
set_option linter.unusedVariables false
set_option linter.unusedSimpArgs false
set_option maxHeartbeats 4000000
set_option maxRecDepth 20000
section
namespace Go.Gx
open Go Go.Sx
section
variable {α β:Type}
theorem aB {o:Option α} {f:α->Option β} {r:β}:ob o f=some r↔∃x,o=some x∧f x=some r:=by
 cases o<;>simp[ob]
theorem bB {b:Bool} {x:Option α} {r:α}:(bif b then x else none)=some r↔b=true∧x=some r:=by
 cases b<;>simp
theorem kG {b:Bool} {x:Option α} {r:α}:(bif b then none else x)=some r↔b=false∧x=some r:=by
 cases b<;>simp
theorem rE (n:Nat) (f:Nat->α):sn n f=f n:=by cases n<;>rfl
theorem Oc (z:Int) (f:Int->α):fi z f=f z:=by cases z<;>simp[fi,rE]
theorem oS (l:List α):∀n,BV l n=l[n]?:=by
 induction l with
 |nil=>intro n;rfl
 |cons x l ih=>intro n;cases n with
  |zero=>rfl
  |succ n=>exact ih n
theorem RQ {v:α}:∀{l l':List α} {n:Nat},RO v l n=some l'->n<l.length∧l'=l.set n v:=by
 intro l
 induction l with
 |nil=>intro l' n h;cases h
 | cons x l ih => intro l' n h; cases n with
  |zero=>cases h;simp
  |succ n=>
   obtain⟨r,h1,h2⟩:=aB.1 (show ob (RO v l n) (fun r'=>some (x::r'))=some l' from h)
   obtain⟨h3,h4⟩:=ih h1
   cases h2;simp[h3,h4]
theorem Wp:∀{l r:List α} {n:Nat},tk l n=some r->n<=l.length∧r=l.take n:=by
 intro l
 induction l with
 |nil=>intro r n h;cases n with
  |zero=>cases h;simp
  |succ n=>cases h
 | cons x l ih => intro r n h; cases n with
  |zero=>cases h;simp
  |succ n=>
   obtain⟨q,h1,h2⟩:=aB.1 (show ob (tk l n) (fun r=>some (x::r))=some r from h)
   obtain⟨h3,h4⟩:=ih h1
   cases h2;simp[h3,h4]
theorem VA:∀{l r:List α} {n:Nat},dp l n=some r->n<=l.length∧r=l.drop n:=by
 intro l
 induction l with
 |nil=>intro r n h;cases n with
  |zero=>cases h;simp
  |succ n=>cases h
 |cons x l ih=>intro r n h;cases n with
  |zero=>cases h;simp
  |succ n=>have:=ih (show dp l n=some r from h);simpa using this
theorem Hm {l r:List α} {o n:Nat} (h:Vi l o n=some r):o+n<=l.length∧r=(l.drop o).take n:=by
 obtain⟨q,h1,h2⟩:=aB.1 h
 obtain⟨h3,rfl⟩:=VA h1
 obtain⟨h4,rfl⟩:=Wp h2
 simp at h4
 exact⟨by omega,rfl⟩
def wr (vs:List α) (o:Nat) (cs:List α):List α:=cs.take o++vs++cs.drop (o+vs.length)
end
theorem Dn:∀{vs cs cs':List GV} {o:Nat},Bw vs o cs=some cs'->(vs≠[]->o+vs.length<=cs.length)∧cs'.length=cs.length∧∀i,cs'[i]? = if o<=i∧i<o+vs.length then vs[i - o]? else cs[i]?:=by
 intro vs
 induction vs with
 |nil=>
  intro cs cs' o h
  cases h
  refine⟨fun h=>absurd rfl h,rfl,fun i=> ?_⟩
  rw[if_neg (by simp)]
 | cons v vs ih =>
  intro cs cs' o h
  obtain⟨c1,h1,h2⟩:=aB.1 (show ob (RO v cs o) (fun cs'=>sn (Nat.succ o) fun o'=>Bw vs o' cs')=some cs' from h)
  rw[rE]at h2
  obtain⟨h3,rfl⟩:=RQ h1
  obtain⟨h4,h5,h6⟩:=ih h2
  simp only[List.length_set,Nat.succ_eq_add_one]at h4 h5 h6
  refine⟨fun _=> ?_,h5,fun i=> ?_⟩
  ·cases vs with
   |nil=>simp;omega
   |cons y ys=>have:=h4 (by simp);simp at this ⊢;omega
  rw[h6 i]
  by_cases e:i=o
  ·subst e
   rw[if_neg (by omega),if_pos (by simp),List.getElem?_set_self h3];simp
  ·by_cases e2:o+1<=i∧i<o+1+vs.length
   ·rw[if_pos e2,if_pos (by simp;omega)]
    have:i - o=(i - (o+1))+1:=by omega
    rw[this,List.getElem?_cons_succ]
   ·rw[if_neg e2,if_neg (by simp;omega),List.getElem?_set_ne (Ne.symm e)]
theorem HN {α:Type} (x:Option α):∀(f n m:Nat),n<f->(wV x f n).get m=if m=n then x else none:=by
 intro f
 induction f with
 |zero=>intro n m h;omega
 | succ f ih =>
  intro n m h
  show Tr.get (bif Nat.beq n 0 then .nd x .lf .lf else bif Nat.beq (Nat.mod n 2) 1 then .nd none (wV x f (Nat.div n 2)) .lf else .nd none .lf (wV x f (Nat.sub (Nat.div n 2) 1))) m=_
  have hg:∀(a:Option α) (l r:Tr α),Tr.get (.nd a l r) m=if m=0 then a else if m%2=1 then l.get (m / 2)else r.get (m / 2 - 1):=fun a l r=>by
   show Bool.casesOn (motive:=fun _=>Option α) (Nat.beq m 0) (Bool.casesOn (motive:=fun _=>Option α) (Nat.beq (Nat.mod m 2) 1) (r.get (Nat.sub (Nat.div m 2) 1)) (l.get (Nat.div m 2))) a=_
   by_cases h0:m=0
   ·subst h0;rfl
   ·rw[if_neg h0,kD h0]
    by_cases h1:m%2=1
    ·rw[if_pos h1]
     have:Nat.beq (Nat.mod m 2) 1=true:=by rw[show Nat.mod m 2=1 from h1];rfl
     rw[this];rfl
    ·rw[if_neg h1]
     have:Nat.beq (Nat.mod m 2) 1=false:=kD h1
     rw[this];rfl
  have hlf:∀k,(Tr.lf:Tr α).get k=none:=fun _=>rfl
  have hd:Nat.div n 2=n / 2:=rfl
  have hs:Nat.sub (Nat.div n 2) 1=n / 2 - 1:=rfl
  by_cases h0:n=0
  ·subst h0
   show Tr.get (.nd x .lf .lf) m=_
   simp only[hg,hlf]
   by_cases hm:m=0<;>simp[hm]
  ·rw[kD h0]
   by_cases h1:n%2=1
   ·have:Nat.beq (Nat.mod n 2) 1=true:=by rw[show Nat.mod n 2=1 from h1];rfl
    simp only[this,cond_true,cond_false,hg,hlf,hd]
    rw[ih _ _ (by omega)]
    by_cases hm:m=0
    ·rw[if_pos hm,if_neg (by omega)]
    ·rw[if_neg hm]
     by_cases h2:m%2=1
     ·rw[if_pos h2];by_cases h3:m=n
      ·subst h3;simp
      ·rw[if_neg h3,if_neg (by omega)]
     ·rw[if_neg h2,if_neg (by intro e;subst e;exact h2 h1)]
   ·have:Nat.beq (Nat.mod n 2) 1=false:=kD h1
    simp only[this,cond_true,cond_false,hg,hlf,hs]
    rw[ih _ _ (by omega)]
    by_cases hm:m=0
    ·rw[if_pos hm,if_neg (by omega)]
    ·rw[if_neg hm]
     by_cases h2:m%2=1
     ·rw[if_pos h2,if_neg (by intro e;subst e;exact h1 h2)]
     ·rw[if_neg h2];by_cases h3:m=n
      ·subst h3;simp
      ·rw[if_neg h3,if_neg (by omega)]
theorem nH {α:Type} (x:Option α):∀(t:Tr α) (n m:Nat),(t.set x n).get m=if m=n then x else t.get m:=by
 intro t
 induction t with
 |lf=>intro n m;exact HN x _ n m (Nat.lt_succ_self n)
 | nd a l r ihl ihr =>
  intro n m
  have hg:∀(a:Option α) (l r:Tr α),Tr.get (.nd a l r) m=if m=0 then a else if m%2=1 then l.get (m / 2)else r.get (m / 2 - 1):=fun a l r=>by
   show Bool.casesOn (motive:=fun _=>Option α) (Nat.beq m 0) (Bool.casesOn (motive:=fun _=>Option α) (Nat.beq (Nat.mod m 2) 1) (r.get (Nat.sub (Nat.div m 2) 1)) (l.get (Nat.div m 2))) a=_
   by_cases h0:m=0
   ·subst h0;rfl
   ·rw[if_neg h0,kD h0]
    by_cases h1:m%2=1
    ·rw[if_pos h1]
     have:Nat.beq (Nat.mod m 2) 1=true:=by rw[show Nat.mod m 2=1 from h1];rfl
     rw[this];rfl
    ·rw[if_neg h1]
     have:Nat.beq (Nat.mod m 2) 1=false:=kD h1
     rw[this];rfl
  show Tr.get (Bool.casesOn (motive:=fun _=>Tr α) (Nat.beq n 0) (Bool.casesOn (motive:=fun _=>Tr α) (Nat.beq (Nat.mod n 2) 1) (.nd a l (r.set x (Nat.sub (Nat.div n 2) 1))) (.nd a (l.set x (Nat.div n 2)) r)) (.nd x l r)) m=_
  have hd:Nat.div n 2=n / 2:=rfl
  have hs:Nat.sub (Nat.div n 2) 1=n / 2 - 1:=rfl
  by_cases h0:n=0
  ·subst h0
   show Tr.get (.nd x l r) m=_
   rw[hg,hg];by_cases hm:m=0<;>simp[hm]
  ·rw[kD h0]
   by_cases h1:n%2=1
   ·have:Nat.beq (Nat.mod n 2) 1=true:=by rw[show Nat.mod n 2=1 from h1];rfl
    rw[this]
    show Tr.get (.nd a (l.set x (Nat.div n 2)) r) m=_
    rw[hg,hg,ihl,hd]
    by_cases hm:m=0
    ·rw[if_pos hm,if_pos hm,if_neg (by omega)]
    ·rw[if_neg hm,if_neg hm]
     by_cases h2:m%2=1
     ·rw[if_pos h2,if_pos h2];by_cases h3:m=n
      ·subst h3;simp
      ·rw[if_neg h3,if_neg (by omega)]
     ·rw[if_neg h2,if_neg h2,if_neg (by intro e;subst e;exact h2 h1)]
   ·have:Nat.beq (Nat.mod n 2) 1=false:=kD h1
    rw[this]
    show Tr.get (.nd a l (r.set x (Nat.sub (Nat.div n 2) 1))) m=_
    rw[hg,hg,ihr,hs]
    by_cases hm:m=0
    ·rw[if_pos hm,if_pos hm,if_neg (by omega)]
    ·rw[if_neg hm,if_neg hm]
     by_cases h2:m%2=1
     ·rw[if_pos h2,if_pos h2,if_neg (by intro e;subst e;exact h1 h2)]
     ·rw[if_neg h2,if_neg h2];by_cases h3:m=n
      ·subst h3;simp
      ·rw[if_neg h3,if_neg (by omega)]
theorem nF (H:GH) (h:Nat) (o:GO) (k:Nat):(H.set h o).get k=if k=h then some o else H.get k:=by
 unfold GH.get GH.set
 rw[nH]
 by_cases e:k=h<;>simp[e,ob]
theorem Jm (H:GH) (h:Nat) (o:GO) (k:Nat):(H.set h o).ver k=if k=h then some H.n else H.ver k:=by
 unfold GH.ver GH.set
 rw[nH]
 by_cases e:k=h<;>simp[e,ob]
theorem AQ (H:GH) (h k:Nat):(H.del h).get k=if k=h then none else H.get k:=by
 unfold GH.get GH.del
 rw[nH]
 by_cases e:k=h<;>simp[e,ob]
theorem Jk (H:GH) (h k:Nat):(H.del h).ver k=if k=h then none else H.ver k:=by
 unfold GH.ver GH.del
 rw[nH]
 by_cases e:k=h<;>simp[e,ob]
noncomputable def GH.new (H:GH) (o:GO):GH:=⟨H.n+1,H.t.set (some (H.n,o)) H.n⟩
theorem nE (H:GH) (o:GO) (k:Nat):(H.new o).get k=if k=H.n then some o else H.get k:=by
 unfold GH.get GH.new
 rw[nH]
 by_cases e:k=H.n<;>simp[e,ob]
theorem Jl (H:GH) (o:GO) (k:Nat):(H.new o).ver k=if k=H.n then some H.n else H.ver k:=by
 unfold GH.ver GH.new
 rw[nH]
 by_cases e:k=H.n<;>simp[e,ob]
theorem HO {α R:Type} (x:Option α):∀(f n:Nat) (k:Tr α->R),Bo x f n k=k (wV x f n):=by
 intro f
 induction f with
 |zero=>intro n k;rfl
 |succ f ih=>
  intro n k
  show Bool.casesOn (motive:=fun _=>R) (Nat.beq n 0) (Bool.casesOn (motive:=fun _=>R) (Nat.beq (Nat.mod n 2) 1) (Bo x f (Nat.sub (Nat.div n 2) 1) fun t=>k (.nd none .lf t)) (Bo x f (Nat.div n 2) fun t=>k (.nd none t .lf))) (k (.nd x .lf .lf))=k (bif Nat.beq n 0 then .nd x .lf .lf else bif Nat.beq (Nat.mod n 2) 1 then .nd none (wV x f (Nat.div n 2)) .lf else .nd none .lf (wV x f (Nat.sub (Nat.div n 2) 1)))
  rw[ih,ih]
  cases Nat.beq n 0<;>cases Nat.beq (Nat.mod n 2) 1<;>rfl
theorem wU {α R:Type} (x:Option α):∀(t:Tr α) (n:Nat) (k:Tr α->R),t.setK x n k=k (t.set x n):=by
 intro t
 induction t with
 |lf=>intro n k;exact HO x (Nat.succ n) n k
 |nd a l r ihl ihr=>
  intro n k
  show Bool.casesOn (motive:=fun _=>R) (Nat.beq n 0) (Bool.casesOn (motive:=fun _=>R) (Nat.beq (Nat.mod n 2) 1) (r.setK x (Nat.sub (Nat.div n 2) 1) fun t=>k (.nd a l t)) (l.setK x (Nat.div n 2) fun t=>k (.nd a t r))) (k (.nd x l r))=k (Bool.casesOn (motive:=fun _=>Tr α) (Nat.beq n 0) (Bool.casesOn (motive:=fun _=>Tr α) (Nat.beq (Nat.mod n 2) 1) (.nd a l (r.set x (Nat.sub (Nat.div n 2) 1))) (.nd a (l.set x (Nat.div n 2)) r)) (.nd x l r))
  rw[ihl,ihr]
  cases Nat.beq n 0<;>cases Nat.beq (Nat.mod n 2) 1<;>rfl
theorem gY {α:Type} (H:GH) (o:GO) (f:Nat->GH->α):H.newK o f=f H.n (H.new o):=by simp only[GH.newK,rE,wU];rfl
theorem rJ {α:Type} (H:GH) (h:Nat) (o:GO) (f:GH->α):H.setK h o f=f (H.set h o):=by simp only[GH.setK,rE,wU];rfl
theorem AP {α:Type} (H:GH) (h:Nat) (f:GH->α):H.delK h f=f (H.del h):=by simp only[GH.delK,wU];rfl
theorem Ux {R:Type} (a b:List GV):∀k:List GV->R,lap a b k=k (a++b):=by
 induction a with
 |nil=>intro k;rfl
 |cons x a ih=>intro k;exact ih _
theorem SO {R:Type} (a:List GV):∀k:List GV->R,fc a k=k a:=by
 induction a with
 |nil=>intro k;rfl
 |cons x a ih=>intro k;exact ih _
theorem NU (H:GH) (v:GV) (f:GH->OR):NT H v f=f (JL H v):=by
 unfold NT JL
 cases v.asS with
 |none=>rfl
 |some s=>exact AP H s.1 f
theorem fD {H:GH} {h:Nat} {cs:List GV}:H.cells h=some cs↔H.get h=some (.cells cs):=by
 unfold GH.cells
 rw[aB]
 constructor
 ·rintro⟨o,h1,h2⟩;cases o with
  |cells c=>cases h2;exact h1
  |mp e=>cases h2
 ·intro h;exact⟨_,h,rfl⟩
theorem GO.asM_eq {o:GO} {es:List (GV×GV)} (h:o.asM=some es):o = .mp es:=by
 cases o with
 |cells c=>cases h
 |mp e=>cases h;rfl
theorem tX (k:Nat) (v:GV) (σ:GF) (t:Nat):AC ((k,v)::σ) t=if t=k then some v else AC σ t:=by
 show Bool.casesOn (motive:=fun _=>Option GV) (Nat.beq t k) (AC σ t) (some v)=_
 by_cases e:t=k
 ·subst e;simp
 ·rw[kD e,if_neg e]
section
variable {v:GV}
theorem k_ {p:IntKind×Int} (h:v.asI=some p):v = .int p.1 p.2:=by cases v<;>cases h;rfl
theorem wY {p:Bool} (h:v.asB=some p):v = .bool p:=by cases v<;>cases h;rfl
theorem yJ {p:Nat×Nat} (h:v.asP=some p):v = .ptr p.1 p.2:=by cases v<;>cases h;rfl
theorem vF {p:Nat×Nat×Nat×Nat} (h:v.asS=some p):v = .sl p.1 p.2.1 p.2.2.1 p.2.2.2:=by cases v<;>cases h;rfl
theorem Nz {p:Nat×List GV×List GV} (h:v.asF=some p):v = .fn p.1 p.2.1 p.2.2:=by cases v<;>cases h;rfl
theorem TG {p:List GV} (h:v.asT=some p):v = .tup p:=by cases v<;>cases h;rfl
theorem JG {p:List GV} (h:v.asA=some p):v = .agg p:=by cases v<;>cases h;rfl
theorem lL {p:Nat×Nat} (h:v.asStr=some p):v = .str p.1 p.2:=by cases v<;>cases h;rfl
theorem asM_eq {p:Nat} (h:v.asM=some p):v = .map p:=by cases v<;>cases h;rfl
theorem qH (h:v.isSnil=true):v = .snil:=by cases v<;>first|rfl|cases h
end
section
variable {d:TypeDesc}
theorem Bd {e:TypeId} (h:Qp d=some e):d = .slice e:=by cases d<;>cases h;rfl
theorem Km {e:Nat×TypeId} (h:UU d=some e):d = .array e.1 e.2:=by cases d<;>cases h;rfl
theorem Hs {e:Array Field} (h:WE d=some e):d = .struct e:=by cases d<;>cases h;rfl
theorem Bc {e:IntKind} (h:Qo d=some e):d = .int e:=by cases d<;>cases h;rfl
theorem UV {e:TypeId×TypeId} (h:tdM d=some e):d = .map e.1 e.2:=by cases d<;>cases h;rfl
theorem uL (h:CW d=true):d = .string:=by cases d<;>first|rfl|cases h
theorem Kn (h:Wo d=true):d = .bool:=by cases d<;>first|rfl|cases h
end
theorem BZ {a:Int} {n:Nat} (h:TF a=some n):a=n:=by cases a<;>cases h;rfl
theorem Vs {b:Bool} {p:Prop} [Decidable p] (h:b=true↔p):b=decide p:=by
 cases b
 ·exact(decide_eq_false fun hp=>by cases h.2 hp).symm
 ·exact(decide_eq_true (h.1 rfl)).symm
theorem Cn (a b:Int):UB a b=decide (a<b):=by
  refine Vs ?_
  cases a with
  | ofNat a => cases b with
    |ofNat b=>show Nat.blt a b=true↔_;rw[Nat.blt_eq];simp
    | negSucc b =>
        constructor
        · intro h;cases h
        · intro h;simp at h;omega
  | negSucc a => cases b with
    | ofNat b =>
        constructor
        · intro _;have:=Int.negSucc_lt_zero a;simp;omega
        · intro _;rfl
    |negSucc b=>show Nat.blt b a=true↔_;rw[Nat.blt_eq];omega
theorem Ea (a b:Int):Vb a b=decide (a=b):=by
  refine Vs ?_
  cases a with
  | ofNat a => cases b with
    |ofNat b=>show Nat.beq a b=true↔_;simp;omega
    | negSucc b =>
        constructor
        · intro h;cases h
        · intro h;cases h
  | negSucc a => cases b with
    | ofNat b =>
        constructor
        · intro h;cases h
        · intro h;cases h
    |negSucc b=>show Nat.beq a b=true↔_;simp
theorem AV (a b:Bool):KO a b=(a==b):=by cases a<;>cases b<;>rfl
theorem Eb {a b:IntKind} (h:Vd a b=true):a=b:=of_decide_eq_true h
theorem Ed (b:Bool):fb b=some (.bool b):=by cases b<;>rfl
end Go.Gx
end
section
namespace Go.Gx
open Go Go.Sx Go.RowKit
section
structure Fq where
 b:Nat
 off:Nat
 size:Nat
 x:Obj
 /-- what the evaluator wrote -/
 o:GO
abbrev cS:=Nat->Option Fq
def cS.le (ρ ρ':cS):Prop:=∀h l,ρ h=some l->ρ' h=some l
theorem cS.le_refl (ρ:cS):ρ.le ρ:=fun _ _ h=>h
theorem cS.le_trans {a b c:cS} (h:a.le b) (k:b.le c):a.le c:=fun _ _ x=>k _ _ (h _ _ x)
inductive Rl (ρ:cS):GV->Value->Prop
 |int (k n):Rl ρ (.int k n) (.int k n)
 |bool (b):Rl ρ (.bool b) (.bool b)
 |str (s:ByteArray):Rl ρ (.str (iO (aY s)) (aY s).length) (.string s)
 |ptr {h l} (off) (hl:ρ h=some l):Rl ρ (.ptr h off) (.pointer (some ⟨l.b,l.off+off,none⟩))
 |pnil:Rl ρ .pnil (.pointer none)
 |sl {h l off len sz cap} {A:Addr} (hl:ρ h=some l) (hc:len<=cap) (ha:cap=0∨(A=⟨l.b,l.off+off,none⟩∧l.off+off+cap*sz<=l.size)):Rl ρ (.sl h off len sz) (.slice (some A) len cap)
 |snil:Rl ρ .snil (.slice none 0 0)
 |map {h l} (hl:ρ h=some l):Rl ρ (.map h) (.map (some l.b))
 | fn {us vs : List GV} {us' vs' : iN} (f) (h1 : us.length = us'.length) (h2 : ∀ (i : Nat) g v, us[i]? = some g → us'[i]? = some v → Rl ρ g v) (h3 : vs.length = vs'.length) (h4 : ∀ (i : Nat) g v, vs[i]? = some g → vs'[i]? = some v → Rl ρ g v) :
   Rl ρ (.fn f us vs) (.func (.func f) us'.toArray vs'.toArray)
 |fnil:Rl ρ .fnil .nilFunc
 |inil:Rl ρ .inil .nilIface
 |agg {cs:List GV} {vs:iN} (h1:cs.length=vs.length) (h2:∀(i:Nat) g v,cs[i]? = some g->vs[i]? = some v->Rl ρ g v) (h3:∀v∈vs,one v=true):Rl ρ (.agg cs) (.agg vs.toArray)
 |tup {cs:List GV} {vs:iN} (h1:cs.length=vs.length) (h2:∀(i:Nat) g v,cs[i]? = some g->vs[i]? = some v->Rl ρ g v):Rl ρ (.tup cs) (.tuple vs.toArray)
 |un:Rl ρ .un undef
 |bad (v):Rl ρ .bad v
 |opn {h l} (v) (hl:ρ h=some l) (hx:l.x = .cells #[v] 0 (0,0)):Rl ρ (.opn h) v
theorem Rl.le {ρ ρ':cS} (hl:ρ.le ρ') {g:GV} {v:Value} (h:Rl ρ g v):Rl ρ' g v:=by
 induction h with
 |int k n=>exact .int k n
 |bool b=>exact .bool b
 |str s=>exact .str s
 |ptr off h=>exact .ptr off (hl _ _ h)
 |pnil=>exact .pnil
 |sl h hc ha=>exact .sl (hl _ _ h) hc ha
 |snil=>exact .snil
 |map h=>exact .map (hl _ _ h)
 |fn f h1 h2 h3 h4 ih2 ih4=>exact .fn f h1 ih2 h3 ih4
 |fnil=>exact .fnil
 |inil=>exact .inil
 |agg h1 h2 h3 ih=>exact .agg h1 ih h3
 |tup h1 h2 ih=>exact .tup h1 ih
 |un=>exact .un
 |bad v=>exact .bad v
 |opn v h hx=>exact .opn v (hl _ _ h) hx
structure mQ (ρ:cS) (gs:List GV) (vs:iN):Prop where
 len:gs.length=vs.length
 at':∀(i:Nat) g v,gs[i]? = some g->vs[i]? = some v->Rl ρ g v
theorem mQ.nil {ρ:cS}:mQ ρ [] []:=⟨rfl,fun i g v h=>by simp at h⟩
theorem mQ.cons {ρ:cS} {g:GV} {v:Value} {gs:List GV} {vs:iN} (h:Rl ρ g v) (r:mQ ρ gs vs):mQ ρ (g::gs) (v::vs):=⟨by simp[r.len],fun i a b ha hb=>by
 cases i with
 |zero=>simp at ha hb;subst ha hb;exact h
 |succ i=>simp at ha hb;exact r.at' i a b ha hb⟩
theorem mQ.of_cons {ρ:cS} {g:GV} {gs:List GV} {vs:iN} (h:mQ ρ (g::gs) vs):∃v vs',vs=v::vs'∧Rl ρ g v∧mQ ρ gs vs':=by
 cases vs with
 |nil=>have:=h.len;simp at this
 |cons v vs=>exact⟨v,vs,rfl,h.at' 0 _ _ rfl rfl,by have:=h.len;simpa using this,fun i a b ha hb=>h.at' (i+1) a b (by simpa using ha) (by simpa using hb)⟩
theorem mQ.of_nil {ρ:cS} {vs:iN} (h:mQ ρ [] vs):vs=[]:=List.eq_nil_of_length_eq_zero h.len.symm
theorem mQ.le {ρ ρ':cS} (hl:ρ.le ρ') {gs:List GV} {vs:iN} (h:mQ ρ gs vs):mQ ρ' gs vs:=⟨h.len,fun i g v h1 h2=>(h.at' i g v h1 h2).le hl⟩
theorem mQ.append {ρ:cS} {gs gs':List GV} {vs vs':iN} (h:mQ ρ gs vs) (k:mQ ρ gs' vs'):mQ ρ (gs++gs') (vs++vs'):=by
 induction gs generalizing vs with
 |nil=>rw[h.of_nil];exact k
 |cons g gs ih=>obtain⟨v,vs,rfl,h1,h2⟩:=h.of_cons;exact .cons h1 (ih h2)
theorem mQ.get {ρ:cS} {gs:List GV} {vs:iN} (h:mQ ρ gs vs) {i:Nat} {g:GV} (hg:gs[i]? = some g):∃v,vs[i]? = some v∧Rl ρ g v:=by
 have hi:=aR hg
 have:i<vs.length:=h.len▸hi
 exact⟨vs[i],List.getElem?_eq_getElem this,h.at' i g _ hg (List.getElem?_eq_getElem this)⟩
theorem mQ.sub {ρ:cS} {gs:List GV} {vs:iN} (h:mQ ρ gs vs) (o n:Nat):mQ ρ ((gs.drop o).take n) ((vs.drop o).take n):=
 ⟨by simp[h.len],fun i g v h1 h2=>by
  rw[List.getElem?_take]at h1 h2
  split at h1
  ·rename_i hi
   rw[if_pos hi]at h2
   rw[List.getElem?_drop]at h1 h2
   exact h.at' _ g v h1 h2
  ·cases h1⟩
section
variable {ρ:cS} {V:Value}
theorem Rl.int_inv {k:IntKind} {n:Int} (h:Rl ρ (.int k n) V):V = .int k n:=by cases h;rfl
theorem Rl.bool_inv {b:Bool} (h:Rl ρ (.bool b) V):V = .bool b:=by cases h;rfl
theorem Rl.str_inv {n l:Nat} (h:Rl ρ (.str n l) V):∃s,V = .string s∧n=iO (aY s)∧l=(aY s).length:=by cases h;exact⟨_,rfl,rfl,rfl⟩
theorem Rl.ptr_inv {h o:Nat} (x:Rl ρ (.ptr h o) V):∃l,ρ h=some l∧V = .pointer (some ⟨l.b,l.off+o,none⟩):=by cases x with|ptr o hl=>exact⟨_,hl,rfl⟩
theorem Rl.sl_inv {h o n sz:Nat} (x:Rl ρ (.sl h o n sz) V):∃l cap A,ρ h=some l∧V = .slice (some A) n cap∧n<=cap∧(cap=0∨(A=⟨l.b,l.off+o,none⟩∧l.off+o+cap*sz<=l.size)):=by
 cases x with|sl hl hc ha=>exact⟨_,_,_,hl,rfl,hc,ha⟩
theorem Rl.snil_inv (h:Rl ρ .snil V):V = .slice none 0 0:=by cases h;rfl
theorem Rl.map_inv {h:Nat} (x:Rl ρ (.map h) V):∃l,ρ h=some l∧V = .map (some l.b):=by cases x with|map hl=>exact⟨_,hl,rfl⟩
theorem Rl.fn_inv {f:Nat} {us vs:List GV} (x:Rl ρ (.fn f us vs) V):∃us' vs',V = .func (.func f) us'.toArray vs'.toArray∧mQ ρ us us'∧mQ ρ vs vs':=by
 cases x with|fn f h1 h2 h3 h4=>exact⟨_,_,rfl,⟨h1,h2⟩,⟨h3,h4⟩⟩
theorem Rl.agg_inv {cs:List GV} (x:Rl ρ (.agg cs) V):∃vs,V = .agg vs.toArray∧mQ ρ cs vs∧∀v∈vs,one v=true:=by
 cases x with|agg h1 h2 h3=>exact⟨_,rfl,⟨h1,h2⟩,h3⟩
theorem Rl.tup_inv {cs:List GV} (x:Rl ρ (.tup cs) V):∃vs,V = .tuple vs.toArray∧mQ ρ cs vs:=by
 cases x with|tup h1 h2=>exact⟨_,rfl,⟨h1,h2⟩⟩
theorem Rl.opn_inv {h:Nat} (x:Rl ρ (.opn h) V):∃l,ρ h=some l∧l.x = .cells #[V] 0 (0,0):=by cases x with|opn v hl hx=>exact⟨_,hl,hx⟩
theorem Rl.un_inv (x:Rl ρ .un V):V=undef:=by cases x;rfl
theorem Jz {f:Nat} {us vs:List GV} {us' vs':List Value} (h1:mQ ρ us us') (h2:mQ ρ vs vs'):Rl ρ (.fn f us vs) (.func (.func f) us'.toArray vs'.toArray):= .fn f h1.len h1.at' h2.len h2.at'
theorem Df {cs:List GV} {vs:List Value} (h:mQ ρ cs vs) (h3:∀v∈vs,one v=true):Rl ρ (.agg cs) (.agg vs.toArray):= .agg h.len h.at' h3
theorem Dg {cs:List GV} {vs:List Value} (h:mQ ρ cs vs):Rl ρ (.tup cs) (.tuple vs.toArray):= .tup h.len h.at'
theorem Rl.cells {g:GV} {cs:List GV} (h:Rl ρ g V) (hc:g.cells=some cs):∃vs,V.cells=vs.toArray∧mQ ρ cs vs∧∀v∈vs,one v=true:=by
 have hone:∀g V,Rl ρ g V->one V=true->∃vs,#[V]=vs.toArray∧mQ ρ [g] vs∧∀v∈vs,one v=true:=fun g V h h1=>⟨[V],rfl,.cons h .nil,fun v hv=>by simp at hv;subst hv;exact h1⟩
 have h0:=h
 cases h with
 |agg h1 h2 h3=>cases hc;exact⟨_,rfl,⟨h1,h2⟩,h3⟩
 |tup h1 h2=>cases hc
 |un=>cases hc
 |bad v=>cases hc
 |opn v hl hx=>cases hc
 |_=>cases hc;exact hone _ _ h0 rfl
end
theorem Hb {ρ:cS} {v:Value} {g:GV} (h:Mt v=some g):Rl ρ g v∧one v=true:=by
 unfold Mt at h
 split at h
 ·cases h;exact⟨.int _ _,rfl⟩
 ·cases h;exact⟨.bool _,rfl⟩
 ·cases h;exact⟨.snil,rfl⟩
 ·cases h;exact⟨.pnil,rfl⟩
 ·cases h;exact⟨.fnil,rfl⟩
 ·cases h;exact⟨.inil,rfl⟩
 ·simp only[rE]at h;cases h;exact⟨.str _,rfl⟩
 ·cases h
theorem Lg {ρ:cS}:∀{vs:List Value} {gs:List GV},RY vs=some gs->mQ ρ gs vs∧∀v∈vs,one v=true
 | [],gs,h=>by cases h;exact⟨.nil,fun v h=>by simp at h⟩
 | v :: vs, gs, h => by
  obtain⟨x,h1,h2⟩:=aB.1 (show ob (Mt v) (fun x=>ob (RY vs) fun xs=>some (x::xs))=some gs from h)
  obtain⟨xs,h3,h4⟩:=aB.1 h2
  cases h4
  obtain⟨a,b⟩:=Lg h3
  obtain⟨c,d⟩:=Hb (ρ:=ρ) h1
  exact⟨.cons c a,fun u hu=>by
   rcases List.mem_cons.1 hu with rfl|hu
   ·exact d
   ·exact b u hu⟩
theorem Kc {ρ:cS} {v:Value} {g:GV} (h:Wb v=some g):Rl ρ g v:=by
 unfold Wb at h
 split at h
 ·obtain⟨xs,h1,h2⟩:=aB.1 h
  cases h2
  obtain⟨a,b⟩:=Lg (ρ:=ρ) h1
  have:=Df a b
  simpa using this
 ·exact(Hb h).1
theorem Lp {ρ:cS} {s:Sem Value} {g:GV} (h:Cy s=some g):∃v,Rl ρ g v∧s = .pure v:=by
 unfold Cy at h
 split at h
 ·exact⟨_,(Hb h).1,rfl⟩
 ·cases h
structure iA (ρ:cS) (n:Nat) (σ:GF) (a:Act):Prop where
 defers:a.defers=[]
 size:a.tmps.size=n
 slot:∀t g,AC σ t=some g->Rl ρ g (a.eval (.tmp t))
theorem iA.le {ρ ρ':cS} (hl:ρ.le ρ') {n:Nat} {σ:GF} {a:Act} (h:iA ρ n σ a):iA ρ' n σ a:=⟨h.defers,h.size,fun t g hg=>(h.slot t g hg).le hl⟩
theorem iA.put {ρ:cS} {n:Nat} {σ:GF} {a:Act} (h:iA ρ n σ a) {d:Nat} (hd:d<n) {g:GV} {v:Value} (hv:Rl ρ g v):iA ρ n ((d,g)::σ) (a.put (some d) v):=
 ⟨h.defers,by simp[Act.put,h.size],fun t u ht=>by
  rw[tX]at ht
  by_cases e:t=d
  ·subst e;rw[if_pos rfl]at ht;cases ht
   have:(a.put (some t) v).eval (.tmp t)=v:=by simp[Act.put,Act.eval,h.size,hd]
   rw[this];exact hv
  ·rw[if_neg e]at ht
   have:(a.put (some d) v).eval (.tmp t)=a.eval (.tmp t):=by
    simp only[Act.put,Act.eval,Array.getD_eq_getD_getElem?]
    rw[Array.getElem?_setIfInBounds_ne (Ne.symm e)]
   rw[this];exact h.slot t u ht⟩
section
variable {ρ:cS} {n:Nat} {σ:GF} {a:Act}
theorem bS (F:iA ρ n σ a) {x:Operand} {g:GV} (h:gN σ x=some g):Rl ρ g (a.eval x):=by
 cases x with
 |tmp t=>exact F.slot t g h
 |const v=>exact Kc h
 |global g=>cases h
 |func f=>cases h;exact Jz .nil .nil
theorem Ad (F:iA ρ n σ a):∀{xs:List Operand} {gs:List GV},AX σ xs=some gs->mQ ρ gs (xs.map a.eval)
 | [],gs,h=>by cases h;exact .nil
 |x::xs,gs,h=>by
  obtain⟨v,h1,h2⟩:=aB.1 (show ob (gN σ x) (fun v=>ob (AX σ xs) fun vs=>some (v::vs))=some gs from h)
  obtain⟨vs,h3,h4⟩:=aB.1 h2
  cases h4
  exact .cons (bS F h1) (Ad F h3)
def Va (ρ:cS) (gs:List (Nat×GV)) (vs:List (Nat×Value)):Prop:=gs.map (·.1)=vs.map (·.1)∧mQ ρ (gs.map (·.2)) (vs.map (·.2))
theorem wC (F:iA ρ n σ a):∀{xs:List (Nat×Operand)} {gs:List (Nat×GV)},oQ σ xs=some gs->Va ρ gs (xs.map fun p=>(p.1,a.eval p.2))
 | [],gs,h=>by cases h;exact⟨rfl,.nil⟩
 |x::xs,gs,h=>by
  obtain⟨v,h1,h2⟩:=aB.1 (show ob (gN σ x.2) (fun v=>ob (oQ σ xs) fun vs=>some ((x.1,v)::vs))=some gs from h)
  obtain⟨vs,h3,h4⟩:=aB.1 h2
  cases h4
  obtain⟨e1,e2⟩:=wC F h3
  exact⟨by simp only[List.map_cons,e1],.cons (bS F h1) e2⟩
end
def wP (P:Program) (ρ:cS) (s:Sem Value) (g:GV):Prop:=∃v,Rl ρ g v∧∀w,s.run P w = .ok v w
structure dK (P:Program) (tb:TB):Prop where
 tab:∀{T d},tb T=some d->nI P T d
 /-- structs of leaves may be compared -/
 eqs:∀{T fs},FG T=true->mJ tb T=some fs->qR tb fs=true->P.stoodInHeld T=false∧∀f∈fs,f.name ≠ "_"
noncomputable def VB (P:Program) (tb:TB):Bool:=(List.range 512).all fun T=>bif FG T then(Option.casesOn (motive:=fun _=>Bool) (mJ tb T) true fun fs=>bif qR tb fs then(!P.stoodInHeld T&&fs.all fun f=> !(f.name == "_"))else true)else true
theorem Uj {P:Program} {tb:TB} (h:VB P tb=true) {T:Nat} {fs:List Field} (h5:FG T=true) (hf:mJ tb T=some fs) (hl:qR tb fs=true):P.stoodInHeld T=false∧∀f∈fs,f.name ≠ "_":=by
 have h6:T<512:=by
  obtain⟨_,h⟩:=bB.1 (show(bif Nat.blt 31 T then(bif Nat.blt T 512 then some ()else none)else none)=some () by
   unfold FG at h5
   cases e:Nat.blt 31 T<;>rw[e]at h5
   ·cases h5
   ·rw[cond_true]at h5;rw[h5];rfl)
  obtain⟨h,_⟩:=bB.1 h
  simpa [Nat.blt_eq]using h
 have:=List.all_eq_true.1 h T (List.mem_range.2 h6)
 rw[h5,cond_true,hf]at this
 have this:(bif qR tb fs then(!P.stoodInHeld T&&fs.all fun f=> !(f.name == "_"))else true)=true:=this
 rw[hl,cond_true,Bool.and_eq_true]at this
 exact⟨by simpa using this.1,fun f hfm=>by simpa using List.all_eq_true.1 this.2 f hfm⟩
section
variable {P:Program} {tb:TB} {ρ:cS} {V U W:Value} {v u t g:GV}
theorem Ku {k:IntKind} {z:Int} {g:GV} (h:gw k z=some g):g = .int k (k.wrap z):=by
  unfold gw at h
  rw[Oc]at h
  cases hk:SU k with
  | true =>
    rw[hk]at h
    obtain⟨h1,h2⟩:=bB.1 h
    cases h2
    have e:k = .i64:=by cases k<;>first|rfl|cases hk
    subst e
    have : -9223372036854775808<=z∧z<=9223372036854775807:=by
      cases z with
      | ofNat a =>
          have : a < 9223372036854775808 := by simpa [Ol, Nat.blt_eq] using h1
          simp only[Int.ofNat_eq_natCast];omega
      | negSucc a =>
          have : a < 9223372036854775808 := by simpa [Ol, Nat.blt_eq] using h1
          omega
    rw[Gm this.1 this.2]
  | false =>
    rw[hk]at h
    simp only[cond_false,Oc]at h
    cases h;rfl
theorem QL {op:BinOp} {k:IntKind} {a b:Int} {T:TypeId} (hs:Do op=false) (h:Vu op k a b=some g):∃v,Rl ρ g v∧binOp op T (.int k a) (.int k b) = .pure v:=by
 have hb:∀{p:Prop} [Decidable p] {c:Bool},c=decide p->fb c=some g->Rl ρ g (.bool (decide p)):=fun e h=>by rw[Ed]at h;cases h;rw[e];exact .bool _
 have hsem:∀op',Do op'=false->Cy (binOp op' 0 (.int k a) (.int k b))=some g->∃v,Rl ρ g v∧binOp op' T (.int k a) (.int k b) = .pure v:=fun op' hs' h=>by
  obtain⟨v,h1,h2⟩:=Lp (ρ:=ρ) h
  refine⟨v,h1,?_⟩
  rw[<-h2];cases op'<;>first|rfl|cases hs'
 cases op with
 |add=>exact⟨_,by rw[Ku h];exact .int _ _,by simp[binOp,Op.intArith];rfl⟩
 |sub=>exact⟨_,by rw[Ku h];exact .int _ _,by simp[binOp,Op.intArith];rfl⟩
 |eql=>exact⟨.bool (decide (a=b)),hb (Ea a b) h,by simp[binOp,Op.intCmp];rfl⟩
 |neq=>exact⟨.bool (decide (¬a=b)),hb (by rw[Ea];simp) h,by simp[binOp,Op.intCmp];rfl⟩
 |lss=>exact⟨.bool (decide (a<b)),hb (Cn a b) h,by simp[binOp,Op.intCmp];rfl⟩
 |leq=>exact⟨.bool (decide (a<=b)),hb (by rw[Cn,<-decide_not];exact decide_eq_decide.2 (by omega)) h,by simp[binOp,Op.intCmp];rfl⟩
 |gtr=>exact⟨.bool (decide (b<a)),hb (Cn b a) h,by simp[binOp,Op.intCmp];rfl⟩
 |geq=>exact⟨.bool (decide (b<=a)),hb (by rw[Cn,<-decide_not];exact decide_eq_decide.2 (by omega)) h,by simp[binOp,Op.intCmp];rfl⟩
 |shl=>cases hs
 |shr=>cases hs
 |mul=>exact hsem .mul hs h
 |quo=>exact hsem .quo hs h
 |rem=>exact hsem .rem hs h
 |and=>exact hsem .and hs h
 |or=>exact hsem .or hs h
 |xor=>exact hsem .xor hs h
 |andNot=>exact hsem .andNot hs h
end
end
section
theorem qG (b:UInt8) (l:List UInt8):iO (b::l)=b.toNat+256*iO l:=rfl
theorem Bu:∀{x y:List UInt8},x.length=y.length->iO x=iO y->x=y
 | [],[],_,_=>rfl
 | [],_::_,h,_=>by simp at h
 |_::_,[],h,_=>by simp at h
 |a::x,b::y,h,e=>by
  rw[qG,qG]at e
  have ha:=a.toNat_lt
  have hb:=b.toNat_lt
  have e1:a.toNat=b.toNat:=by omega
  have e2:iO x=iO y:=by omega
  rw[UInt8.toNat_inj.1 e1,Bu (by simpa using h) e2]
theorem Cf:∀(x:List UInt8) (n:Nat),iO x / 256^n=iO (x.drop n)
 |x,0=>by simp
 | [],n+1=>by simp[iO]
 |b::x,n+1=>by
  rw[qG,List.drop_succ_cons,<-Cf x n,Nat.pow_succ,Nat.mul_comm (256^n) 256,<-Nat.div_div_eq_div_mul]
  have:=b.toNat_lt
  congr 1
  omega
theorem FE:∀(x:List UInt8) (n:Nat),iO x%256^n=iO (x.take n)
 |x,0=>by simp[iO,Nat.mod_one]
 | [],n+1=>by simp[iO]
 |b::x,n+1=>by
  rw[qG,List.take_succ_cons,qG,<-FE x n,Nat.pow_succ,Nat.mul_comm (256^n) 256,Nat.mod_mul]
  have hb:=b.toNat_lt
  have e1:(b.toNat+256*iO x)%256=b.toNat:=by omega
  have e2:(b.toNat+256*iO x) / 256=iO x:=by omega
  rw[e1,e2]
theorem Wn (n l:Nat):Nat.shiftRight n (Nat.mul 8 l)=n / 256^l:=by
 show n >>> (8*l)=_
 rw[Nat.shiftRight_eq_div_pow,Nat.pow_mul]
theorem Wc (k:Nat):Nat.pow 2 (Nat.mul 8 k)=256^k:=by
 show 2^(8*k)=_
 rw[Nat.pow_mul]
theorem NW (x:List UInt8) (l k:Nat):Nat.mod (Nat.shiftRight (iO x) (Nat.mul 8 l)) (Nat.pow 2 (Nat.mul 8 k))=iO ((x.drop l).take k):=by
 rw[Wn,Wc]
 show iO x / 256^l%256^k=_
 rw[Cf,FE]
theorem KN (x:List UInt8) (i:Nat) (h:i<x.length):Nat.mod (Nat.shiftRight (iO x) (Nat.mul 8 i)) 256=(x[i]).toNat:=by
 rw[Wn]
 show iO x / 256^i%256=_
 rw[Cf,List.drop_eq_getElem_cons h,qG]
 have:=(x[i]).toNat_lt
 omega
theorem LW (s:ByteArray) (i:Nat):s[i]? = (aY s)[i]?:=by
 unfold aY
 by_cases h:i<s.size
 ·rw[getElem?_pos s i h,Array.getElem?_toList,Array.getElem?_eq_getElem (by simpa using h)];rfl
 ·rw[getElem?_neg s i h]
  rw[List.getElem?_eq_none (by have:=Lib.size_eq s;omega)]
section
variable {P:Program} {tb:TB} {ρ:cS} {V U W:Value} {v u t g:GV}
theorem Vt (a b:ByteArray):(a==b)=(a.toList==b.toList):=by
 rw[Lib.toList_data,Lib.toList_data]
 obtain⟨⟨x⟩⟩:=a
 obtain⟨⟨y⟩⟩:=b
 have:((⟨⟨x⟩⟩:ByteArray)==⟨⟨y⟩⟩)=((⟨x⟩:Array UInt8)==⟨y⟩):=rfl
 rw[this]
 simp
theorem Ui {a b:Nat×Nat} {s r:ByteArray} (e1:a.1=iO (aY s)) (e2:a.2=(aY s).length) (e3:b.1=iO (aY r)) (e4:b.2=(aY r).length):Jh a b=(s.toList==r.toList):=by
 rw[Lib.toList_data,Lib.toList_data]
 unfold Jh
 rw[e1,e2,e3,e4]
 by_cases hl:(aY s).length=(aY r).length
 ·have hb:Nat.beq (aY r).length (aY r).length=true:=by simp
  rw[hl,hb,cond_true]
  by_cases he:iO (aY s)=iO (aY r)
  ·have:=Bu hl he
   unfold aY at this
   rw[he,this];simp
  ·rw[kD he]
   symm
   rw[beq_eq_false_iff_ne]
   intro hh;exact he (by unfold aY;rw[hh])
 ·rw[kD hl,cond_false]
  symm
  rw[beq_eq_false_iff_ne]
  intro hh;exact hl (by unfold aY;rw[hh])
theorem Mm (hG:dK P tb) {T:TypeId} {t:Ty} (ht:tb T=some t) {q:Bool} (hv:Rl ρ v V) (hu:Rl ρ u U) (h:JY t v u=some q) (m:Nat) (w:World):(Op.equalIn (m+1) T V U).run P w = .ok q w:=by
 have hun:=(hG.tab ht).run_und w
 unfold JY at h
 cases hi:v.asI with
 |some a=>
  rw[hi]at h
  obtain⟨b,hb,h⟩:=aB.1 h
  obtain⟨k,hk,h⟩:=aB.1 h
  obtain⟨hkk,h⟩:=bB.1 h
  cases h
  rw[k_ hi]at hv
  rw[k_ hb]at hu
  rw[hv.int_inv,hu.int_inv,<-Eb hkk]
  rw[Bc hk]at hun
  unfold Op.equalIn
  rw[Ea]
  simp[hun]
  rfl
 | none =>
  rw[hi]at h
  simp only at h
  cases hs:v.asStr with
  |some a=>
   rw[hs]at h
   obtain⟨b,hb,h⟩:=aB.1 h
   obtain⟨hd,h⟩:=bB.1 h
   cases h
   rw[lL hs]at hv
   rw[lL hb]at hu
   obtain⟨s,rfl,e1,e2⟩:=hv.str_inv
   obtain⟨r,rfl,e3,e4⟩:=hu.str_inv
   rw[uL hd]at hun
   rw[Ui e1 e2 e3 e4,<-Vt]
   unfold Op.equalIn
   simp[hun]
  |none=>
   rw[hs]at h
   obtain⟨a,ha,h⟩:=aB.1 (show ob v.asB _=some q from h)
   obtain⟨b,hb,h⟩:=aB.1 h
   obtain⟨hd,h⟩:=bB.1 h
   cases h
   rw[wY ha]at hv
   rw[wY hb]at hu
   rw[hv.bool_inv,hu.bool_inv]
   rw[Kn hd]at hun
   unfold Op.equalIn
   rw[AV]
   simp[hun]
theorem FQ {t:Ty} (h:AK t=true):(∃k,t.desc = .int k)∨t.desc = .string∨t.desc = .bool:=by
 unfold AK at h
 cases hb:Wo t.desc with
 |true=>exact .inr (.inr (Kn hb))
 | false =>
  rw[hb]at h
  cases hs:CW t.desc with
  |true=>exact .inr (.inl (uL hs))
  |false=>
   rw[hs]at h
   cases hi:Qo t.desc with
   |none=>rw[hi]at h;cases h
   |some k=>exact .inl ⟨k,Bc hi⟩
theorem CQ {f:Field} {fs:List Field} (h:qR tb (f::fs)=true):∃t,tb f.type=some t∧AK t=true∧qR tb fs=true:=by
 have h:(Option.casesOn (motive:=fun _=>Bool) (tb f.type) false fun t=>bif AK t then qR tb fs else false)=true:=h
 cases ht:tb f.type with
 |none=>rw[ht]at h;cases h
 |some t=>
  rw[ht]at h
  have h:(bif AK t then qR tb fs else false)=true:=h
  cases hl:AK t with
  |false=>rw[hl]at h;cases h
  |true=>rw[hl]at h;exact⟨t,rfl,hl,h⟩
theorem IM (hG:dK P tb) {T:TypeId} {t:Ty} (ht:tb T=some t) (hl:AK t=true) {cs:Array Value} {off:Nat} {x:Value} (hx:cs[off]? = some x) (w:World):(part T cs off).run P w = .ok x w:=by
 have hun:=(hG.tab ht).run_und w
 have ha:(isAgg T).run P w = .ok false w:=by
  unfold isAgg
  rcases FQ hl with⟨k,e⟩|e|e<;>rw[e]at hun<;>simp[hun]
 unfold part
 simp[ha,hx]
theorem IK (hG:dK P tb) {cs ds:List GV} {vs us:List Value} (hv:mQ ρ cs vs) (hu:mQ ρ ds us) (m:Nat) (w:World):∀{fs:List Field} {q:Bool},Rm tb cs ds fs=some q->qR tb fs=true->(∀f∈fs,f.name ≠ "_")->
  Sem.run P (forIn fs ((none,()):Option Bool×Unit) fun f __s=>if f.name = "_" then pure (ForInStep.yield (none,()))else do
   let __do_lift <-part f.type vs.toArray f.offset
   let __do_lift_1 <-part f.type us.toArray f.offset
   let __do_lift <-Op.equalIn (m+1) f.type __do_lift __do_lift_1
   if __do_lift=false then pure (ForInStep.done (some false,()))else pure (ForInStep.yield (none,()))) w = .ok (if q then none else some false,()) w
 | [],q,h,_,_=>by
  have:q=true:=by have h:some true=some q:=h;cases h;rfl
  subst this
  simp
 | f :: fs, q, h, hl, hn => by
  obtain⟨t,ht,h⟩:=aB.1 (show ob (tb f.type) _=some q from h)
  obtain⟨a,ha,h⟩:=aB.1 h
  obtain⟨b,hb,h⟩:=aB.1 h
  obtain⟨e,he,h⟩:=aB.1 h
  obtain⟨t',ht',hlt,hlf⟩:=CQ hl
  rw[ht]at ht';cases ht'
  rw[oS]at ha hb
  obtain⟨x,hx,hrx⟩:=hv.get ha
  obtain⟨y,hy,hry⟩:=hu.get hb
  have p1:=IM hG ht hlt (cs:=vs.toArray) (by simpa using hx) w
  have p2:=IM hG ht hlt (cs:=us.toArray) (by simpa using hy) w
  have p3:=Mm hG ht hrx hry he m w
  have hne:=hn f List.mem_cons_self
  cases e with
  |false=>
   have:q=false:=by have h:some false=some q:=h;cases h;rfl
   subst this
   simp[List.forIn_cons,hne,p1,p2,p3]
  |true=>
   have ih:=IK hG hv hu m w (show Rm tb cs ds fs=some q from h) hlf fun f hf=>hn f (List.mem_cons_of_mem _ hf)
   simp[List.forIn_cons,hne,p1,p2,p3,ih]
theorem Md (hG:dK P tb) {T:TypeId} {fs:List Field} (h5:FG T=true) (hfs:mJ tb T=some fs) (hl:qR tb fs=true) {cs ds:List GV} {vs us:List Value} (hv:mQ ρ cs vs) (hu:mQ ρ ds us) {q:Bool} (h:Rm tb cs ds fs=some q) (w:World):
  (Op.equal T (.agg vs.toArray) (.agg us.toArray)).run P w = .ok q w:=by
 obtain⟨hs,hn⟩:=hG.eqs h5 hfs hl
 obtain⟨t,ht,h'⟩:=aB.1 (show ob (tb T) _=some fs from hfs)
 obtain⟨a,ha,h'⟩:=aB.1 h'
 cases h'
 have hun:=(hG.tab ht).run_und w
 rw[Hs ha]at hun
 obtain⟨a⟩:=a
 have key:∀m,(Op.equalIn (m+1+1) T (.agg vs.toArray) (.agg us.toArray)).run P w = .ok q w:=fun m=>by
  have k:=IK hG hv hu m w h hl hn
  unfold Op.equalIn
  simp[hun,hs]
  simp only[]at k
  rw[k]
  cases q<;>simp
 exact key 9998
theorem Cg (hG:dK P tb):∀(m:Nat) {T:TypeId} {t:Ty},tb T=some t->AK t=true->P.eqGuardType (m+1) T=false:=fun m T t ht hl=>by
 have hun:=(hG.tab ht).und
 unfold Program.eqGuardType
 rcases FQ hl with⟨k,e⟩|e|e<;>rw[e]at hun<;>simp[hun]
theorem D_ (hG:dK P tb) {T:TypeId} {fs:List Field} (hfs:mJ tb T=some fs) (hl:qR tb fs=true):P.eqGuardType P.depth T=false:=by
 obtain⟨t,ht,h'⟩:=aB.1 (show ob (tb T) _=some fs from hfs)
 obtain⟨a,ha,h'⟩:=aB.1 h'
 cases h'
 have hun:=(hG.tab ht).und
 rw[Hs ha]at hun
 have key:∀m,P.eqGuardType (m+2) T=false:=fun m=>by
  unfold Program.eqGuardType
  rw[hun]
  simp only
  rw[Array.any_eq_false']
  intro f hf
  have:f∈a.toList:=by simpa using hf
  have hlf:∀(l:List Field),qR tb l=true->∀f∈l,∃t,tb f.type=some t∧AK t=true:=by
   intro l
   induction l with
   |nil=>intro _ f hf;cases hf
   |cons x l ih=>
    intro h f hf
    obtain⟨t,h1,h2,h3⟩:=CQ h
    rcases List.mem_cons.1 hf with rfl|hf
    ·exact⟨t,h1,h2⟩
    ·exact ih h3 f hf
  obtain⟨t',h1,h2⟩:=hlf _ hl f this
  simp[Cg hG m h1 h2]
 unfold Program.depth
 exact key _
theorem Mi (hG:dK P tb) {op:BinOp} {T:TypeId} {fs:List Field} (hfs:mJ tb T=some fs) (hl:qR tb fs=true) (x y:Operand) (a b:Array Value) (w:World):(eqGuard op T x y (.agg a) (.agg b)).run P w = .ok () w:=by
 have hg:=D_ hG hfs hl
 unfold eqGuard
 cases op<;>simp[hg]
theorem AT {op:BinOp} {T:TypeId} {q:Bool} {V U:Value} {x y:Operand} (hg:∀w,(eqGuard op T x y V U).run P w = .ok () w) (he:∀w,(Op.equal T V U).run P w = .ok q w) (h1:binOp .eql T V U=(do pure (.bool (<-Op.equal T V U)))) (h2:binOp .neq T V U=(do pure (.bool (!(<-Op.equal T V U))))) (h:QK op q true=some g):
  wP P ρ (do eqGuard op T x y V U;binOp op T V U) g:=by
 cases op with
 |eql=>exact⟨.bool q,by have h':fb (KO q true)=some g:=h;rw[Ed,AV]at h';cases h';cases q<;>exact .bool _,fun w=>by have a:=hg w;have b:=he w;rw[h1];simp[a,b]⟩
 |neq=>exact⟨.bool (!q),by have h':fb (!KO q true)=some g:=h;rw[Ed,AV]at h';cases h';cases q<;>exact .bool _,fun w=>by have a:=hg w;have b:=he w;rw[h2];simp[a,b]⟩
 |_=>cases h
theorem PR (hG:dK P tb) {op:BinOp} {T:TypeId} (x y:Operand) (hv:Rl ρ v V) (hu:Rl ρ u U) (h:PQ tb op T v u=some g):wP P ρ (do eqGuard op T x y V U;binOp op T V U) g:=by
 unfold PQ at h
 cases ha:v.asA with
 |some cs=>
  rw[ha]at h
  obtain⟨ds,hd,h⟩:=aB.1 (show ob u.asA _=some g from h)
  obtain⟨h5,h⟩:=bB.1 h
  obtain⟨fs,hfs,h⟩:=aB.1 h
  obtain⟨hl,h⟩:=bB.1 h
  obtain⟨q,hq,h⟩:=aB.1 h
  rw[JG ha]at hv
  rw[JG hd]at hu
  obtain⟨vs,rfl,hr,_⟩:=hv.agg_inv
  obtain⟨us,rfl,hr',_⟩:=hu.agg_inv
  exact AT (Mi hG hfs hl x y _ _) (Md hG h5 hfs hl hr hr' hq) rfl rfl h
 | none =>
  rw[ha]at h
  obtain⟨hz,h⟩:=bB.1 (show(bif u.isSnil then _ else none)=some g from h)
  obtain⟨n,hn,h⟩:=aB.1 h
  obtain⟨t,ht,h⟩:=aB.1 h
  obtain⟨e,he,h⟩:=aB.1 h
  rw[qH hz]at hu
  have hU:=hu.snil_inv
  subst hU
  have hun:=fun w=>(hG.tab ht).run_und w
  rw[Bd he]at hun
  cases hvz:v.isSnil with
  | true =>
   rw[hvz]at h
   rw[qH hvz]at hv
   have hV:=hv.snil_inv
   subst hV
   refine AT (fun w=> ?_) (q:=true) (fun w=> ?_) rfl rfl h
   ·unfold eqGuard;cases op<;>simp
   ·have:(Op.equalIn (9999+1) T (.slice none 0 0) (.slice none 0 0)).run P w = .ok true w:=by
     unfold Op.equalIn
     simp[hun w]
    exact this
  | false =>
   rw[hvz]at h
   unfold Rx at hn
   rw[hvz]at hn
   obtain⟨s,hs,hn⟩:=aB.1 (show ob v.asS _=some n from hn)
   rw[vF hs]at hv
   obtain⟨l,cap,A,hl,rfl,_,_⟩:=hv.sl_inv
   refine AT (fun w=> ?_) (q:=false) (fun w=> ?_) rfl rfl h
   ·unfold eqGuard;cases op<;>simp
   ·have:(Op.equalIn (9999+1) T (.slice (some A) s.2.2.1 cap) (.slice none 0 0)).run P w = .ok false w:=by
     unfold Op.equalIn
     simp[hun w]
    exact this
theorem CM:∀(x y:List UInt8),iO (x++y)=iO x+256^x.length*iO y
 | [],y=>by simp[iO]
 |b::x,y=>by
  rw[List.cons_append,qG,qG,CM x y,List.length_cons,Nat.pow_succ]
  rw[Nat.mul_add,Nat.mul_comm (256^x.length) 256,Nat.mul_assoc]
  omega
theorem KJ {a b:Nat×Nat} {s r:ByteArray} (e1:a.1=iO (aY s)) (e2:a.2=(aY s).length) (e3:b.1=iO (aY r)) (e4:b.2=(aY r).length) (h:Ua a b=some g) (w:World):Rl ρ g (.string (s++r))∧(Op.stringOp .add s r).run P w = .ok (.string (s++r)) w:=by
 unfold Ua at h
 obtain⟨hl,h⟩:=bB.1 h
 rw[rE,rE]at h
 cases h
 have hl:a.2+b.2<16777216:=by simpa [Nat.blt_eq]using hl
 have hb:aY (s++r)=aY s++aY r:=by
  unfold aY
  obtain⟨⟨x⟩⟩:=s
  obtain⟨⟨y⟩⟩:=r
  simp
 constructor
 ·have h1:Nat.add a.1 (Nat.mul (Nat.pow 2 (Nat.mul 8 a.2)) b.1)=iO (aY (s++r)):=by
   rw[hb,CM,Wc,e1,e2,e3];rfl
  have h2:Nat.add a.2 b.2=(aY (s++r)).length:=by rw[hb,List.length_append,e2,e4];rfl
  rw[h1,h2]
  exact .str _
 ·have h3:(s.size:Int)+(r.size:Int)<=9223372036854775807:=by
   have e5:=Lib.size_eq s
   have e6:=Lib.size_eq r
   have e7:(aY s).length=s.data.size:=by unfold aY;simp
   have e8:(aY r).length=r.data.size:=by unfold aY;simp
   have e9:s.data.toList.length=s.data.size:=by simp
   have e10:r.data.toList.length=r.data.size:=by simp
   omega
  have h4:¬((((s.size+r.size:Nat)):Int)>IntKind.i64.max):=by
   show¬((((s.size+r.size:Nat)):Int)>9223372036854775807)
   omega
  unfold Op.stringOp
  simp only[]
  rw[if_neg h4]
  rfl
theorem Lu (hG:dK P tb) {op:BinOp} {T:TypeId} (x y:Operand) (hv:Rl ρ v V) (hu:Rl ρ u U) (h:f_ tb op T v u=some g):wP P ρ (do eqGuard op T x y V U;binOp op T V U) g:=by
 unfold f_ at h
 cases hi:v.asI with
 | some a =>
  rw[hi]at h
  obtain⟨b,hb,h⟩:=aB.1 h
  rw[k_ hi]at hv
  rw[k_ hb]at hu
  rw[hv.int_inv,hu.int_inv]
  have hg:∀w,(eqGuard op T x y (.int a.1 a.2) (.int b.1 b.2)).run P w = .ok () w:=fun w=>fV w
  cases hs:Do op with
  |true=>
   rw[hs]at h
   obtain⟨z,h1,h2⟩:=Lp (ρ:=ρ) h
   have e:binOp op T (.int a.1 a.2) (.int b.1 b.2)=binOp op 0 (.int a.1 a.2) (.int b.1 b.2):=by cases op<;>first|rfl|cases hs
   exact⟨z,h1,fun w=>by rw[e,h2];simp[hg w]⟩
  |false=>
   rw[hs]at h
   simp only[cond_false]at h
   obtain⟨hk,h⟩:=bB.1 h
   have hk:=Eb hk
   obtain⟨z,h1,h2⟩:=QL (ρ:=ρ) (T:=T) hs h
   exact⟨z,h1,fun w=>by rw[<-hk,h2];have:=hg w;rw[<-hk]at this;simp[this]⟩
 | none =>
  rw[hi]at h
  simp only at h
  cases hstr:v.asStr with
  | some a =>
   rw[hstr]at h
   obtain⟨b,hb,h⟩:=aB.1 h
   rw[lL hstr]at hv
   rw[lL hb]at hu
   obtain⟨s,rfl,e1,e2⟩:=hv.str_inv
   obtain⟨r,rfl,e3,e4⟩:=hu.str_inv
   have heq:Jh a b=(s.toList==r.toList):=by
    rw[Lib.toList_data,Lib.toList_data]
    unfold Jh
    rw[e1,e2,e3,e4]
    by_cases hl:(aY s).length=(aY r).length
    ·have hb:Nat.beq (aY r).length (aY r).length=true:=by simp
     rw[hl,hb,cond_true]
     by_cases he:iO (aY s)=iO (aY r)
     ·have:=Bu hl he
      unfold aY at this
      rw[he,this];simp
     ·rw[kD he]
      symm
      rw[beq_eq_false_iff_ne]
      intro hh;exact he (by unfold aY;rw[hh])
    ·rw[kD hl,cond_false]
     symm
     rw[beq_eq_false_iff_ne]
     intro hh;exact hl (by unfold aY;rw[hh])
   have hgd:∀w,(eqGuard op T x y (.string s) (.string r)).run P w = .ok () w:=fun w=>by unfold eqGuard;cases op<;>simp
   have key:∀c:Bool,fb c=some g->Rl ρ g (.bool c):=fun c hc=>by rw[Ed]at hc;cases hc;exact .bool _
   cases op with
   |eql=>exact⟨_,key _ h,fun w=>by rw[heq];have:=hgd w;simp[this,binOp,Op.stringOp]⟩
   |neq=>exact⟨_,key _ h,fun w=>by rw[heq];have:=hgd w;simp[this,binOp,Op.stringOp]⟩
   |add=>exact⟨_,(KJ (P:=P) e1 e2 e3 e4 h default).1,fun w=>by have:=hgd w;have k:=(KJ (ρ:=ρ) (P:=P) e1 e2 e3 e4 h w).2;simp only[Sem.run_bind,this,Result.andThen_ok,binOp,k]⟩
   |_=>cases h
  | none =>
   rw[hstr]at h
   simp only at h
   cases ha:v.asB with
   | none =>
    rw[ha]at h
    simp only at h
    cases h1:v.isInil with
    |false=>rw[h1]at h;exact PR hG x y hv hu h
    |true=>
    rw[h1]at h
    have h':=h
    clear h
    obtain⟨h2,h⟩:=bB.1 (show(bif u.isInil then _ else none)=some g from h')
    clear h'
    obtain⟨t,ht,h'⟩:=aB.1 h
    clear h
    obtain⟨hd,hfin⟩:=bB.1 h'
    clear h'
    have e1:v = .inil:=by cases v<;>first|rfl|cases h1
    have e2:u = .inil:=by cases u<;>first|rfl|cases h2
    subst e1;subst e2
    cases hv;cases hu
    obtain⟨ms,hms,h0⟩:∃ms,t.desc = .interface ms∧ms.size=0:=by
     cases hq:t.desc<;>rw[hq]at hd<;>first|(exact⟨_,rfl,Nat.eq_of_beq_eq_true hd⟩)|cases hd
    have hun:∀w:World,_:=fun w=>(hG.tab ht).run_und w
    have h0':ms.isEmpty=true:=by simp[Array.isEmpty,h0]
    have hgi:∀w,(Op.eqGuardIn Op.maxDepth T .nilIface .nilIface).run P w = .ok false w:=fun w=>by
     have key:∀m:Nat,(Op.eqGuardIn (m+1) T .nilIface .nilIface).run P w = .ok false w:=by
      intro m
      unfold Op.eqGuardIn
      simp[hun w,hms,h0']
     exact key 9999
    have hei:∀w,(Op.equal T .nilIface .nilIface).run P w = .ok true w:=fun w=>by
     have key:∀m:Nat,(Op.equalIn (m+1) T .nilIface .nilIface).run P w = .ok true w:=by
      intro m
      unfold Op.equalIn
      simp[hun w,hms]
     exact key 9999
    have hgd:∀w,(eqGuard op T x y .nilIface .nilIface).run P w = .ok () w:=fun w=>by
     unfold eqGuard
     cases op<;>simp[hgi w]
     all_goals (split<;>simp)
    cases op with
    |eql=>cases hfin;exact⟨.bool true,.bool _,fun w=>by have h1:=hgd w;have h2:=hei w;simp[h1,binOp,h2]⟩
    |neq=>cases hfin;exact⟨.bool false,.bool _,fun w=>by have h1:=hgd w;have h2:=hei w;simp[h1,binOp,h2]⟩
    |_=>cases hfin
   | some a =>
    rw[ha]at h
    simp only at h
    obtain⟨b,hb,h⟩:=aB.1 h
    obtain⟨t,ht,h⟩:=aB.1 h
    obtain⟨hd,h⟩:=bB.1 h
    rw[wY ha]at hv
    rw[wY hb]at hu
    rw[hv.bool_inv,hu.bool_inv]
    have hgd:∀w,(eqGuard op T x y (.bool a) (.bool b)).run P w = .ok () w:=fun w=>by unfold eqGuard;cases op<;>simp
    have heq:∀w,(Op.equal T (.bool a) (.bool b)).run P w = .ok (a==b) w:=fun w=>by
     have hu:=(hG.tab ht).run_und w
     rw[Kn hd]at hu
     have key:∀m:Nat,(Op.equalIn (m+1) T (.bool a) (.bool b)).run P w = .ok (a==b) w:=by
      intro m
      unfold Op.equalIn
      simp[hu]
     exact key 9999
    cases op with
    |eql=>exact⟨.bool (a==b),by have h':fb (KO a b)=some g:=h;rw[Ed,AV]at h';cases h';exact .bool _,fun w=>by have h1:=hgd w;have h2:=heq w;simp[h1,binOp,h2]⟩
    |neq=>exact⟨.bool (!(a==b)),by have h':fb (!KO a b)=some g:=h;rw[Ed,AV]at h';cases h';exact .bool _,fun w=>by have h1:=hgd w;have h2:=heq w;simp[h1,binOp,h2]⟩
    |_=>cases h
theorem PZ {op:UnOp} (hv:Rl ρ v V) (h:uO op v=some g):wP P ρ (Op.unary op V) g:=by
 cases op with
 |neg=>
  obtain⟨a,ha,h⟩:=aB.1 (show ob v.asI _=some g from h)
  rw[k_ ha]at hv
  rw[hv.int_inv,Ku h]
  exact⟨_,.int _ _,fun w=>by simp[Op.unary,Op.intArith]⟩
 |not=>
  obtain⟨a,ha,h⟩:=aB.1 (show ob v.asB _=some g from h)
  rw[wY ha]at hv
  rw[hv.bool_inv]
  rw[Ed]at h;cases h
  exact⟨_,.bool _,fun w=>by simp[Op.unary]⟩
 |_=>cases h
theorem IV (hG:dK P tb) {S D:TypeId} (hv:Rl ρ v V) (h:Lw tb S D v=some g):wP P ρ (convert S D V) g:=by
 obtain⟨a,ha,h⟩:=aB.1 (show ob v.asI _=some g from h)
 obtain⟨s,hs,h⟩:=aB.1 h
 obtain⟨k',hk',h⟩:=aB.1 h
 obtain⟨t,ht,h⟩:=aB.1 h
 obtain⟨k,hk,h⟩:=aB.1 h
 rw[Oc]at h;cases h
 rw[k_ ha]at hv
 rw[hv.int_inv]
 refine⟨_,.int _ _,fun w=> ?_⟩
 have h1:=(hG.tab hs).run_und w
 have h2:=(hG.tab ht).run_und w
 rw[Bc hk']at h1
 rw[Bc hk]at h2
 simp[convert,h1,h2,Conv.intToInt]
theorem Ir (hv:Rl ρ v V) (h:v.nilck=some g):g=v∧∀(o:Oper) (x:Operand) (ev:Operand->Value),o.op = .nilCheck x->ev x=V->∀w,(execOp ev o).run P w = .ok (.value V) w:=by
 cases hv with
 |ptr off hl=>cases h;exact⟨rfl,fun o x ev ho hx w=>by simp[execOp,ho,hx]⟩
 |fn f h1 h2 h3 h4=>cases h;exact⟨rfl,fun o x ev ho hx w=>by simp[execOp,ho,hx]⟩
 |_=>cases h
theorem CN (hG:dK P tb) {T:TypeId} {fs:List Field} (h:mJ tb T=some fs):∃d,nI P T d∧d.desc = .struct fs.toArray:=by
 obtain⟨t,ht,h⟩:=aB.1 (show ob (tb T) _=some fs from h)
 obtain⟨a,ha,h⟩:=aB.1 h
 cases h
 exact⟨t,hG.tab ht,by rw[Hs ha]⟩
theorem Gh (hG:dK P tb) {T:TypeId} {f:Nat} (hv:Rl ρ v V) (h:cP tb T f v=some g):wP P ρ (Instr.fieldAt T V f) g:=by
 obtain⟨p,hp,h⟩:=aB.1 (show ob v.asP _=some g from h)
 obtain⟨fs,hfs,h⟩:=aB.1 h
 obtain⟨q,hq,h⟩:=aB.1 h
 obtain⟨tq,htq,h⟩:=aB.1 h
 obtain⟨h0,h⟩:=kG.1 h
 rw[rE]at h;cases h
 rw[yJ hp]at hv
 obtain⟨l,hl,rfl⟩:=hv.ptr_inv
 obtain⟨d,hd,he⟩:=CN hG hfs
 rw[oS]at hq
 refine⟨_,.ptr _ hl,fun w=> ?_⟩
 have h1:=hd.run_und w
 rw[he]at h1
 have hne:tq.size≠0:=fun e=>by rw[e]at h0;cases h0
 have e:l.off+(p.2+q.offset)=l.off+p.2+q.offset:=by omega
 show(Instr.fieldAt T (.pointer (some ⟨l.b,l.off+p.2,none⟩)) f).run P w = .ok (.pointer (some ⟨l.b,l.off+(p.2+q.offset),none⟩)) w
 rw[e]
 simp[Instr.fieldAt,h1,hq,Instr.sureAddr,fieldPlace,(hG.tab htq).run_size w,hne,dJ]
theorem Kb (hG:dK P tb) {T:TypeId} {t:Ty} {cs:List GV} {vs:List Value} {o:Nat} (hT:nI P T t) (hr:mQ ρ cs vs) (h1:∀v∈vs,one v=true) (h:u_ t cs o=some g):wP P ρ (part T vs.toArray o) g:=by
 unfold u_ at h
 cases ha:sN t.desc with
 |true=>
  rw[ha]at h
  obtain⟨r,hs,h⟩:=aB.1 h
  cases h
  obtain⟨hb,rfl⟩:=Hm hs
  refine⟨_,Df (hr.sub o t.size) (fun v hv=>h1 v (List.mem_of_mem_drop (List.mem_of_mem_take hv))),fun w=> ?_⟩
  have e1:=hT.run_agg w
  have e2:=hT.run_size w
  rw[ha]at e1
  simp[part,e1,e2]
 |false=>
  rw[ha]at h
  rw[cond_false,oS]at h
  obtain⟨x,hx,hr⟩:=hr.get h
  refine⟨x,hr,fun w=> ?_⟩
  have e1:=hT.run_agg w
  rw[ha]at e1
  simp[part,e1,hx]
theorem IZ (hG:dK P tb) {T:TypeId} {f:Nat} (hv:Rl ρ v V) (h:PY tb T f v=some g):wP P ρ (Instr.field T V f) g:=by
 obtain⟨cs,hc,h⟩:=aB.1 (show ob v.asA _=some g from h)
 obtain⟨fs,hfs,h⟩:=aB.1 h
 obtain⟨q,hq,h⟩:=aB.1 h
 obtain⟨tq,htq,h⟩:=aB.1 h
 rw[JG hc]at hv
 obtain⟨vs,rfl,hr,h1⟩:=hv.agg_inv
 obtain⟨d,hd,he⟩:=CN hG hfs
 rw[oS]at hq
 obtain⟨x,hx,hrun⟩:=Kb (T:=q.type) hG (hG.tab htq) hr h1 h
 refine⟨x,hx,fun w=> ?_⟩
 have h2:=hd.run_und w
 rw[he]at h2
 have:=hrun w
 simp[Instr.field,h2,hq,asAgg,this]
theorem rR (hG:dK P tb) {T:TypeId} {e:TypeId×Ty} (h:tU tb T=some e):(∃d,nI P T d∧d.desc = .slice e.1)∧nI P e.1 e.2∧tb e.1=some e.2:=by
 obtain⟨t,ht,h⟩:=aB.1 (show ob (tb T) _=some e from h)
 obtain⟨a,ha,h⟩:=aB.1 h
 obtain⟨te,hte,h⟩:=aB.1 h
 cases h
 exact⟨⟨t,hG.tab ht,Bd ha⟩,hG.tab hte,hte⟩
theorem Gi (hG:dK P tb) {T:TypeId} (hv:Rl ρ v V) (hu:Rl ρ u U) (h:Be tb T v u=some g):wP P ρ (Instr.indexAt T V U) g:=by
 obtain⟨n,hn,h⟩:=aB.1 (show ob u.asI _=some g from h)
 obtain⟨i,hi,h⟩:=aB.1 h
 rw[k_ hn]at hu
 rw[hu.int_inv,BZ hi]
 cases hp:v.asP with
 |some p=>
  rw[hp]at h
  rw[yJ hp]at hv
  obtain⟨l,hl,rfl⟩:=hv.ptr_inv
  obtain⟨t,ht,h⟩:=aB.1 (show ob (tb T) _=some g from h)
  obtain⟨e,he,h⟩:=aB.1 h
  obtain⟨te,hte,h⟩:=aB.1 h
  obtain⟨hlt,h⟩:=bB.1 h
  rw[rE]at h;cases h
  refine⟨_,.ptr _ hl,fun w=> ?_⟩
  have h1:=(hG.tab ht).run_und w
  rw[Km he]at h1
  have hlt:i<e.1:=by simpa [Nat.blt_eq]using hlt
  have ee:l.off+(p.2+i*te.size)=l.off+p.2+i*te.size:=by omega
  show(Instr.indexAt T (.pointer (some ⟨l.b,l.off+p.2,none⟩)) (.int n.1 i)).run P w = .ok (.pointer (some ⟨l.b,l.off+(p.2+i*te.size),none⟩)) w
  rw[ee]
  simp[Instr.indexAt,asIntOf,h1,Instr.sureAddr,hlt,(hG.tab hte).run_size w,dJ]
 |none=>
  rw[hp]at h
  obtain⟨s,hs,h⟩:=aB.1 (show ob v.asS _=some g from h)
  rw[vF hs]at hv
  obtain⟨l,cap,A,hl,rfl,hc,ha⟩:=hv.sl_inv
  obtain⟨te,hte,h⟩:=aB.1 (show ob (tU tb T) _=some g from h)
  obtain⟨hlt,h⟩:=bB.1 h
  rw[rE]at h;cases h
  obtain⟨⟨d,hd,hde⟩,hE,_⟩:=rR hG hte
  have hlt:i<s.2.2.1:=by simpa [Nat.blt_eq]using hlt
  rcases ha with ha|⟨rfl,_⟩
  ·omega
  refine⟨_,.ptr _ hl,fun w=> ?_⟩
  have h1:=hd.run_und w
  rw[hde]at h1
  have ee:l.off+(s.2.1+i*te.2.size)=l.off+s.2.1+i*te.2.size:=by omega
  show(Instr.indexAt T (.slice (some ⟨l.b,l.off+s.2.1,none⟩) s.2.2.1 cap) (.int n.1 i)).run P w = .ok (.pointer (some ⟨l.b,l.off+(s.2.1+i*te.2.size),none⟩)) w
  rw[ee]
  simp[Instr.indexAt,asIntOf,h1,hlt,hE.run_size w,dJ]
theorem PO (hG:dK P tb) {T:TypeId} (hv:Rl ρ v V) (hu:Rl ρ u U) (h:Ko tb T v u=some g):wP P ρ (Instr.index T V U) g:=by
 obtain⟨s,hs,h⟩:=aB.1 (show ob v.asStr _=some g from h)
 obtain⟨n,hn,h⟩:=aB.1 h
 obtain⟨i,hi,h⟩:=aB.1 h
 obtain⟨t,ht,h⟩:=aB.1 h
 obtain⟨hd,h⟩:=bB.1 h
 obtain⟨hlt,h⟩:=bB.1 h
 rw[rE]at h;cases h
 rw[k_ hn]at hu
 rw[hu.int_inv,BZ hi]
 rw[lL hs]at hv
 obtain⟨r,rfl,e1,e2⟩:=hv.str_inv
 have hlt:i<(aY r).length:=by rw[<-e2];simpa [Nat.blt_eq]using hlt
 rw[e1,KN _ _ hlt]
 refine⟨_,.int _ _,fun w=> ?_⟩
 have h1:=(hG.tab ht).run_und w
 rw[uL hd]at h1
 have hb:=LW r i
 rw[List.getElem?_eq_getElem hlt]at hb
 simp[Instr.index,asIntOf,h1,hb]
theorem Ly {i:Nat} (hv:Rl ρ v V) (h:UZ i v=some g):wP P ρ (Instr.extract V i) g:=by
 obtain⟨vs,hs,h⟩:=aB.1 (show ob v.asT _=some g from h)
 rw[TG hs]at hv
 obtain⟨us,rfl,hr⟩:=hv.tup_inv
 rw[oS]at h
 obtain⟨x,hx,hr⟩:=hr.get h
 exact⟨x,hr,fun w=>by simp[Instr.extract,hx]⟩
theorem LA {t1 t2 ty:TypeId} (hv:Rl ρ v V) (hu:Rl ρ u U) (h:PX v u=some g):wP P ρ (Builtin.max_ #[t1,t2] ty #[V,U]) g:=by
 obtain⟨a,ha,h⟩:=aB.1 (show ob v.asI _=some g from h)
 obtain⟨b,hb,h⟩:=aB.1 h
 obtain⟨hk,h⟩:=bB.1 h
 have hk:=Eb hk
 have hv':=hv;have hu':=hu
 rw[k_ ha]at hv';rw[k_ hb]at hu'
 rw[Cn]at h
 by_cases hlt:a.2<b.2
 ·rw[decide_eq_true hlt]at h;cases h
  refine⟨U,hu,fun w=> ?_⟩
  rw[hv'.int_inv,hu'.int_inv,<-hk]
  simp[Builtin.max_,Builtin.max2];omega
 ·rw[decide_eq_false hlt]at h;cases h
  refine⟨V,hv,fun w=> ?_⟩
  rw[hv'.int_inv,hu'.int_inv,<-hk]
  simp[Builtin.max_,Builtin.max2];omega
theorem LB {t1 t2 ty:TypeId} (hv:Rl ρ v V) (hu:Rl ρ u U) (h:SE v u=some g):wP P ρ (Builtin.min_ #[t1,t2] ty #[V,U]) g:=by
 obtain⟨a,ha,h⟩:=aB.1 (show ob v.asI _=some g from h)
 obtain⟨b,hb,h⟩:=aB.1 h
 obtain⟨hk,h⟩:=bB.1 h
 have hk:=Eb hk
 have hv':=hv;have hu':=hu
 rw[k_ ha]at hv';rw[k_ hb]at hu'
 rw[Cn]at h
 by_cases hlt:b.2<a.2
 ·rw[decide_eq_true hlt]at h;cases h
  refine⟨U,hu,fun w=> ?_⟩
  rw[hv'.int_inv,hu'.int_inv,<-hk]
  simp[Builtin.min_,Builtin.min2];omega
 ·rw[decide_eq_false hlt]at h;cases h
  refine⟨V,hv,fun w=> ?_⟩
  rw[hv'.int_inv,hu'.int_inv,<-hk]
  simp[Builtin.min_,Builtin.min2];omega
theorem Lv (hG:dK P tb) {T ty:TypeId} (hv:Rl ρ v V) (h:MK tb T v=some g):wP P ρ (Builtin.cap_ #[T] ty #[V]) g:=by
 obtain⟨t,ht,h⟩:=aB.1 (show ob (tb T) _=some g from h)
 obtain⟨e,he,h⟩:=aB.1 h
 obtain⟨hz,h⟩:=bB.1 h
 cases h
 rw[qH hz]at hv
 have hV:=hv.snil_inv
 subst hV
 have hun:=fun w=>(hG.tab ht).run_und w
 rw[Bd he]at hun
 exact⟨_,.int _ _,fun w=>by simp[Builtin.cap_,hun w,goInt]⟩
theorem Lz (hG:dK P tb) {T ty:TypeId} (hv:Rl ρ v V) (h:sU tb T v=some g):wP P ρ (Builtin.len_ #[T] ty #[V]) g:=by
 obtain⟨t,ht,h⟩:=aB.1 (show ob (tb T) _=some g from h)
 cases hs:v.asStr with
 |some s=>
  rw[hs]at h
  obtain⟨hd,h⟩:=bB.1 h
  cases h
  rw[lL hs]at hv
  obtain⟨r,rfl,e1,e2⟩:=hv.str_inv
  refine⟨_,.int _ _,fun w=> ?_⟩
  have h1:=(hG.tab ht).run_und w
  rw[uL hd]at h1
  rw[e2]
  have:r.size=(aY r).length:=Lib.size_eq r
  simp[Builtin.len_,h1,goInt,this]
 | none =>
  rw[hs]at h
  obtain⟨E,hE,h⟩:=aB.1 (show ob (Qp t.desc) _=some g from h)
  obtain⟨n,hn,h⟩:=aB.1 h
  cases h
  unfold Rx at hn
  cases hz:v.isSnil with
  |true=>
   rw[hz]at hn;cases hn
   rw[qH hz]at hv
   rw[hv.snil_inv]
   exact⟨_,.int _ _,fun w=>Hj w (hG.tab ht) (Bd hE) _ _ _ _⟩
  |false=>
   rw[hz]at hn
   obtain⟨s,hs,hn⟩:=aB.1 (show ob v.asS _=some n from hn)
   cases hn
   rw[vF hs]at hv
   obtain⟨l,cap,A,hl,rfl,hc,ha⟩:=hv.sl_inv
   exact⟨_,.int _ _,fun w=>Hj w (hG.tab ht) (Bd hE) _ _ _ _⟩
end
end
section
theorem KR (off:Nat):∀(vs:iN) (k:Nat) (cs:Array Value),off+k+vs.length<=cs.size->
  ((vs.zipIdx k).foldl (fun cs p=>cs.setIfInBounds (off+p.2) p.1) cs).size=cs.size∧
  ∀i,((vs.zipIdx k).foldl (fun cs p=>cs.setIfInBounds (off+p.2) p.1) cs)[i]? = if off+k<=i∧i<off+k+vs.length then vs[i - (off+k)]? else cs[i]?
 | [],k,cs,_=>⟨rfl,fun i=>by rw[if_neg (by simp)];rfl⟩
 | v :: vs, k, cs, h => by
  simp only[List.length_cons]at h
  simp only[List.zipIdx_cons,List.foldl_cons]
  obtain⟨h1,h2⟩:=KR off vs (k+1) (cs.setIfInBounds (off+k) v) (by simp;omega)
  refine⟨by rw[h1];simp,fun i=> ?_⟩
  rw[h2 i]
  by_cases e:i=off+k
  ·subst e
   rw[if_neg (by omega),if_pos (by simp),Array.getElem?_setIfInBounds_self_of_lt (by omega)]
   simp
  ·by_cases e2:off+(k+1)<=i∧i<off+(k+1)+vs.length
   ·rw[if_pos e2,if_pos (by simp;omega)]
    have:i - (off+k)=(i - (off+(k+1)))+1:=by omega
    rw[this,List.getElem?_cons_succ]
   ·rw[if_neg e2,if_neg (by simp;omega),Array.getElem?_setIfInBounds_ne (Ne.symm e)]
section
variable {P:Program} {tb:TB} {ρ:cS} {V U W:Value} {v u t g:GV}
structure LP (ρ:cS) (cs:List GV) (a:Array Value):Prop where
 r:mQ ρ cs a.toList
 one:∀v∈a.toList,Go.Sx.one v=true
theorem GM {a:Array Value} (h:∀v∈a.toList,one v=true) {i:Nat} {v:Value} (hv:a[i]? = some v):one v=true:=h v (by
 rw[<-Array.getElem?_toList]at hv;exact List.mem_of_getElem? hv)
theorem FK {cs c1 cc:List GV} {a:Array Value} {off sz:Nat} {x:Value} (hr:LP ρ cs a) (hx:Rl ρ g x) (hc:g.cells=some cc) (hl:cc.length=sz) (h0:sz≠0) (hp:Bw cc off cs=some c1):
  (x.cells.size=sz∧off+x.cells.size<=a.size)∧LP ρ c1 (x.cells.zipIdx.foldl (fun cs (c,j)=>cs.setIfInBounds (off+j) c) a):=by
 obtain⟨vs,e,hvs,h1⟩:=hx.cells hc
 obtain⟨p1,p2,p3⟩:=Dn hp
 have hne:cc≠[]:=by intro e;subst e;exact h0 hl.symm
 have p1:=p1 hne
 have hlen:cc.length=vs.length:=hvs.len
 have hsz:cs.length=a.size:=by have:=hr.r.len;simpa using this
 rw[e]
 have hfit:off+0+vs.length<=a.size:=by omega
 obtain⟨f1,f2⟩:=KR off vs 0 a hfit
 have ef:(vs.toArray.zipIdx.foldl (fun cs (c,j)=>cs.setIfInBounds (off+j) c) a)=((vs.zipIdx 0).foldl (fun cs p=>cs.setIfInBounds (off+p.2) p.1) a):=by
  simp
 refine⟨⟨by simp;omega,by simp;omega⟩,?_⟩
 rw[ef]
 refine⟨⟨by simp[f1,p2,hsz],fun i b c hb hc=> ?_⟩,fun y hy=> ?_⟩
 ·rw[p3 i]at hb
  rw[Array.getElem?_toList,f2 i]at hc
  simp only[Nat.add_zero]at hc
  by_cases hi:off<=i∧i<off+cc.length
  ·rw[if_pos hi]at hb
   rw[if_pos (by omega)]at hc
   exact hvs.at' _ _ _ hb hc
  ·rw[if_neg hi]at hb
   rw[if_neg (by omega)]at hc
   exact hr.r.at' i b c hb (by rw[Array.getElem?_toList];exact hc)
 ·obtain⟨i,hi⟩:=List.mem_iff_getElem?.1 hy
  rw[Array.getElem?_toList,f2 i]at hi
  split at hi
  ·exact h1 y (List.mem_of_getElem? hi)
  ·exact GM hr.one hi
theorem Ae {sz:Nat}:∀{l:List (Nat×GV)} {parts:List (Nat×Value)} {cs cs':List GV} {a:Array Value},Va ρ l parts->LP ρ cs a->Cm sz l cs=some cs'->
  ∃a',Instr.fill (fun i=>some (i*sz,sz)) a parts=some a'∧LP ρ cs' a'
 | [],parts,cs,cs',a,hp,hr,h=>by
  have:parts=[]:=by have:=hp.1;simpa using this.symm
  subst this;cases h;exact⟨a,rfl,hr⟩
 | p :: l, parts, cs, cs', a, hp, hr, h => by
  cases parts with
  |nil=>have:=hp.1;simp at this
  |cons q parts=>
   obtain⟨e1,e2⟩:=hp
   simp only[List.map_cons,List.cons.injEq]at e1
   obtain⟨y,ys,e3,h1,h2⟩:=e2.of_cons
   simp only[List.map_cons,List.cons.injEq]at e3
   obtain⟨rfl,rfl⟩:=e3
   obtain⟨cc,hcc,h⟩:=aB.1 (show ob p.2.cells (fun cc=>bif Nat.beq cc.length sz then(bif Nat.beq sz 0 then none else ob (Bw cc (Nat.mul p.1 sz) cs) (Cm sz l))else none)=some cs' from h)
   obtain⟨hl,h⟩:=bB.1 h
   obtain⟨h0,h⟩:=kG.1 h
   obtain⟨c1,hg,h⟩:=aB.1 h
   have h0:sz≠0:=fun e=>by rw[e]at h0;cases h0
   obtain⟨⟨s1,s2⟩,s3⟩:=FK hr h1 hcc (Nat.eq_of_beq_eq_true hl) h0 hg
   obtain⟨a',f1,f2⟩:=Ae ⟨e1.2,h2⟩ s3 h
   refine⟨a',?_,f2⟩
   have e:Nat.mul p.1 sz=q.1*sz:=by rw[<-e1.1];rfl
   rw[e]at s2 s3 f1
   show Instr.fill _ a ((q.1,q.2)::parts)=_
   unfold Instr.fill
   simp only
   rw[if_neg (by simp only[ne_eq,Bool.or_eq_true,decide_eq_true_eq,not_or,Decidable.not_not];omega)]
   exact f1
theorem FN {ps:List (Nat×Nat)}:∀{l:List (Nat×GV)} {parts:List (Nat×Value)} {cs cs':List GV} {a:Array Value},Va ρ l parts->LP ρ cs a->JP ps l cs=some cs'->
  ∃a',Instr.fill (ps.toArray[·]?) a parts=some a'∧LP ρ cs' a'
 | [],parts,cs,cs',a,hp,hr,h=>by
  have:parts=[]:=by have:=hp.1;simpa using this.symm
  subst this;cases h;exact⟨a,rfl,hr⟩
 | p :: l, parts, cs, cs', a, hp, hr, h => by
  cases parts with
  |nil=>have:=hp.1;simp at this
  |cons q parts=>
   obtain⟨e1,e2⟩:=hp
   simp only[List.map_cons,List.cons.injEq]at e1
   obtain⟨y,ys,e3,h1,h2⟩:=e2.of_cons
   simp only[List.map_cons,List.cons.injEq]at e3
   obtain⟨rfl,rfl⟩:=e3
   obtain⟨pl,hpl,h⟩:=aB.1 (show ob (BV ps p.1) (fun q=>ob p.2.cells fun cc=>bif Nat.beq cc.length q.2 then(bif Nat.beq q.2 0 then none else ob (Bw cc q.1 cs) (JP ps l))else none)=some cs' from h)
   obtain⟨cc,hcc,h⟩:=aB.1 h
   obtain⟨hl,h⟩:=bB.1 h
   obtain⟨h0,h⟩:=kG.1 h
   obtain⟨c1,hg,h⟩:=aB.1 h
   have h0:pl.2≠0:=fun e=>by rw[e]at h0;cases h0
   obtain⟨⟨s1,s2⟩,s3⟩:=FK hr h1 hcc (Nat.eq_of_beq_eq_true hl) h0 hg
   obtain⟨a',f1,f2⟩:=FN ⟨e1.2,h2⟩ s3 h
   refine⟨a',?_,f2⟩
   rw[oS,e1.1]at hpl
   show Instr.fill _ a ((q.1,q.2)::parts)=_
   unfold Instr.fill
   have:ps.toArray[q.1]? = some pl:=by simpa using hpl
   simp only[this]
   rw[if_neg (by simp only[ne_eq,Bool.or_eq_true,decide_eq_true_eq,not_or,Decidable.not_not];omega)]
   exact f1
theorem qJ (hG:dK P tb) {T:TypeId} {zc:List GV} (h:vR tb T=some zc):∃d,tb T=some d∧nI P T d∧LP ρ zc d.zero.cells:=by
 obtain⟨d,hd,h⟩:=aB.1 (show ob (tb T) _=some zc from h)
 obtain⟨z,hz,h⟩:=aB.1 h
 obtain⟨vs,e,hr,h1⟩:=(Kc (ρ:=ρ) hz).cells h
 exact⟨d,hd,hG.tab hd,by rw[e];exact⟨hr,h1⟩⟩
theorem EE (hG:dK P tb):∀{fs:List Field} {pl:List (Nat×Nat)},Hl tb fs=some pl->fs.mapM (fun f=>(P.info? f.type).map fun i=>(f.offset,i.size))=some pl
 | [],pl,h=>by cases h;rfl
 |f::fs,pl,h=>by
  obtain⟨t,ht,h⟩:=aB.1 (show ob (tb f.type) (fun t=>ob (Hl tb fs) fun r=>some ((f.offset,t.size)::r))=some pl from h)
  obtain⟨r,hr,h⟩:=aB.1 h
  cases h
  obtain⟨i,hi,hs,_,_⟩:=(hG.tab ht).info
  simp[List.mapM_cons,hi,hs,EE hG hr]
theorem Gg (hG:dK P tb) {T:TypeId} {l:List (Nat×GV)} {parts:List (Nat×Value)} (hp:Va ρ l parts) (h:Kp tb T l=some g):wP P ρ (Instr.build T parts.toArray) g:=by
 obtain⟨t,ht,h⟩:=aB.1 (show ob (tb T) _=some g from h)
 obtain⟨zc,hz,h⟩:=aB.1 h
 obtain⟨d,hd,hT,hC⟩:=qJ (ρ:=ρ) hG hz
 rw[ht]at hd;cases hd
 obtain⟨i,hi,hs,_,hzero⟩:=hT.info
 have hu:=hT.und
 suffices hh:∃a',P.built T parts=some a'∧∃cs',g = .agg cs'∧LP ρ cs' a' by
  obtain⟨a',hb,cs',rfl,hC'⟩:=hh
  refine⟨.agg a',?_,fun w=>run_build w T parts.toArray a' (by simpa using hb)⟩
  have:=Df hC'.r hC'.one
  simpa using this
 cases hf:WE t.desc with
 | some fs =>
  rw[hf]at h
  obtain⟨pl,hpl,h⟩:=aB.1 (show ob (Ix tb T) _=some g from h)
  obtain⟨cs,hfill,h⟩:=aB.1 h
  cases h
  obtain⟨fl,hfl,hpl⟩:=aB.1 (show ob (mJ tb T) _=some pl from hpl)
  have hfl':fl=fs.toList:=by
   obtain⟨t',ht',h'⟩:=aB.1 (show ob (tb T) _=some fl from hfl)
   rw[ht]at ht';cases ht'
   obtain⟨fs',hfs',h'⟩:=aB.1 h'
   rw[hf]at hfs';cases hfs';cases h';rfl
  subst hfl'
  obtain⟨a',f1,f2⟩:=FN hp hC hfill
  refine⟨a',?_,cs,rfl,f2⟩
  rw[Hs hf]at hu
  unfold Program.built
  simp only[hi,hu,hzero,EE hG hpl]
  exact f1
 |none=>
  rw[hf]at h
  obtain⟨e,he,h⟩:=aB.1 (show ob (UU t.desc) _=some g from h)
  obtain⟨te,hte,h⟩:=aB.1 h
  obtain⟨cs,hfill,h⟩:=aB.1 h
  cases h
  obtain⟨a',f1,f2⟩:=Ae hp hC hfill
  refine⟨a',?_,cs,rfl,f2⟩
  rw[Km he]at hu
  obtain⟨ie,hie,hse,_,_⟩:=(hG.tab hte).info
  unfold Program.built
  simp only[hi,hu,hzero,hie,hse]
  exact f1
end
def rB (ρ:cS) (w:World) (l:Fq):GO->Prop
 | .cells cs=>∃(cur:Array Value) (T:TypeId),w.heap[l.b]? = some (.cells cur T (0,0))∧cur.size=l.size∧l.off+cs.length<=l.size∧∀(i:Nat) g,cs[i]? = some g->∃v,cur[l.off+i]? = some v∧Rl ρ g v∧one v=true
 | .mp es=>∃(en:Array MapEntry) (clock:Nat),w.heap[l.b]? = some (.map en clock)∧en.size=es.length∧∀(i:Nat) e,es[i]? = some e->∃m,en[i]? = some m∧Rl ρ e.1 m.key∧Rl ρ e.2 m.val
theorem rB.lt {ρ:cS} {w:World} {l:Fq} {o:GO} (h:rB ρ w l o):l.b<w.heap.size:=by
 cases o with
 |cells cs=>obtain⟨cur,T,h,_⟩:=h;exact(Array.getElem?_eq_some_iff.1 h).1
 |mp es=>obtain⟨cur,T,h,_⟩:=h;exact(Array.getElem?_eq_some_iff.1 h).1
theorem rB.move {ρ ρ':cS} {w w':World} {l:Fq} {o:GO} (h:rB ρ w l o) (hl:ρ.le ρ') (e:w'.heap[l.b]? = w.heap[l.b]?):rB ρ' w' l o:=by
 cases o with
 |cells cs=>obtain⟨cur,T,h1,h2,h3,h4⟩:=h;exact⟨cur,T,by rw[e];exact h1,h2,h3,fun i g hg=>let ⟨v,a,b,c⟩:=h4 i g hg;⟨v,a,b.le hl,c⟩⟩
 |mp es=>obtain⟨en,cl,h1,h2,h3⟩:=h;exact⟨en,cl,by rw[e];exact h1,h2,fun i g hg=>let ⟨m,a,b,c⟩:=h3 i g hg;⟨m,a,b.le hl,c.le hl⟩⟩
structure rK where
 obs:List (Nat×Obj)
 env:List Value
def xR (gs:rK) (w:World) (O:Nat->Prop):Prop:=∀p∈gs.obs,w.heap[p.1]? = some p.2∧¬O p.1
structure cM (gs:rK) where
 w:World
 O:Nat->Prop
 ok:xR gs w O
def cM.mine {gs:rK} (b:cM gs) (k:Nat):Prop:=b.w.heap.size<=k∨b.O k
structure dU {gs:rK} (w0:cM gs) (ρ:cS) (H:GH) (w:World):Prop where
 ext:vV w0.O w0.w w
 live:∀h o,H.get h=some o->∃l,ρ h=some l∧w0.mine l.b∧rB ρ w l o
 inj:∀h h' o o' l l',H.get h=some o->H.get h'=some o'->ρ h=some l->ρ h'=some l'->l.b=l'.b->h=h'
 fresh:∀h,H.n<=h->ρ h=none
 dense:∀h,h<H.n->∃l,ρ h=some l
 /-- the block holds what was written last -/
 vers:∀h v l,H.ver h=some v->ρ h=some l->∃lv,ρ v=some lv∧w.heap[l.b]? = some lv.x∧H.get h=some lv.o
 /-- the first handles stand for the open values -/
 env:∀i v,gs.env[i]? = some v->∃l,ρ i=some l∧l.x = .cells #[v] 0 (0,0)
theorem dU.lt {gs:rK} {w0:cM gs} {w:World} {ρ:cS} {H:GH} (R:dU w0 ρ H w) {h:Nat} {o:GO} (hg:H.get h=some o):h<H.n:=by
 rcases Nat.lt_or_ge h H.n with h'|h'
 ·exact h'
 ·obtain⟨l,hl,_⟩:=R.live h o hg
  rw[R.fresh h h']at hl;cases hl
def Gp (P:Program) {gs:rK} (w0:cM gs) (ρ:cS) (s:Sem Value) (w:World) (g:GV) (H':GH):Prop:=∃v w' ρ',s.run P w = .ok v w'∧ρ.le ρ'∧dU w0 ρ' H' w'∧Rl ρ' g v
def cS.upd (ρ:cS) (h:Nat) (l:Fq):cS:=fun k=>if k=h then some l else ρ k
theorem tP {ρ:cS} {h:Nat} {l:Fq} (hf:ρ h=none):ρ.le (ρ.upd h l):=fun k x hx=>by
 unfold cS.upd
 by_cases e:k=h
 ·subst e;rw[hf]at hx;cases hx
 ·rw[if_neg e];exact hx
theorem dU.new {gs:rK} {w0:cM gs} {w w':World} {ρ:cS} {H:GH} (R:dU w0 ρ H w) {o:GO} {l:Fq} (he:vV w0.O w0.w w') (hb:∀h o' l',H.get h=some o'->ρ h=some l'->w'.heap[l'.b]? = w.heap[l'.b]? ∧ l'.b≠l.b) (h0:w0.mine l.b)
    (ho:rB (ρ.upd H.n l) w' l o) (hx:w'.heap[l.b]? = some l.x) (hlo:l.o=o:=by rfl):ρ.le (ρ.upd H.n l)∧dU w0 (ρ.upd H.n l) (H.new o) w':=by
  have hle:ρ.le (ρ.upd H.n l):=tP (R.fresh _ (Nat.le_refl _))
  have hne:∀h o',H.get h=some o'->h≠H.n:=fun h o' hg=>Nat.ne_of_lt (R.lt hg)
  have hsame:∀h,h≠H.n->(ρ.upd H.n l) h=ρ h:=fun h hh=>by simp[cS.upd,hh]
  have hself:(ρ.upd H.n l) H.n=some l:=by simp[cS.upd]
  refine⟨hle,he,?_,?_,?_,?_,?_,fun i v e=>let ⟨l,a,b⟩:=R.env i v e;⟨l,hle _ _ a,b⟩⟩
  · intro h o' hg
    rw[nE]at hg
    by_cases e:h=H.n
    · subst e;rw[if_pos rfl]at hg;cases hg;exact⟨l,hself,h0,ho⟩
    · rw[if_neg e]at hg
      obtain⟨l',hl',hb',ho'⟩:=R.live h o' hg
      exact⟨l',by rw[hsame h e];exact hl',hb',ho'.move hle (hb h o' l' hg hl').1⟩
  · intro h h' o1 o2 l1 l2 hg hg' hl hl' hbb
    rw[nE]at hg hg'
    by_cases e:h=H.n
    · by_cases e':h'=H.n
      · rw[e,e']
      · rw[if_neg e']at hg'
        rw[hsame h' e']at hl'
        subst e;rw[hself]at hl;cases hl
        exact absurd hbb.symm (hb h' o2 l2 hg' hl').2
    · rw[if_neg e]at hg
      rw[hsame h e]at hl
      by_cases e':h'=H.n
      · subst e';rw[hself]at hl';cases hl'
        exact absurd hbb (hb h o1 l1 hg hl).2
      · rw[if_neg e']at hg'
        rw[hsame h' e']at hl'
        exact R.inj h h' o1 o2 l1 l2 hg hg' hl hl' hbb
  · intro h hh
    have : h ≠ H.n := by
        have : H.n + 1 ≤ h := hh
        omega
    rw[hsame h this]
    exact R.fresh h (by
        have : H.n + 1 ≤ h := hh
        omega)
  · intro h hh
    have hh:h<H.n+1:=hh
    by_cases e:h=H.n
    · subst e;exact⟨l,hself⟩
    · rw[hsame h e];exact R.dense h (by omega)
  · intro h v l' hv hl'
    rw[Jl]at hv
    by_cases e:h=H.n
    · subst e;rw[if_pos rfl]at hv;cases hv
      rw[hself]at hl';cases hl'
      exact⟨l,hself,hx,by rw[nE,if_pos rfl,hlo]⟩
    · rw[if_neg e]at hv
      rw[hsame h e]at hl'
      obtain⟨lv,h1,h2,h3⟩:=R.vers h v l' hv hl'
      obtain⟨p,hp,_⟩:=aB.1 (show ob (H.t.get h) _=some v from hv)
      exact⟨lv,hle _ _ h1,by rw[(hb h p.2 l' (by unfold GH.get;rw[hp];rfl) hl').1];exact h2,by rw[nE,if_neg e];exact h3⟩
theorem dU.set {gs:rK} {w0:cM gs} {w w':World} {ρ:cS} {H:GH} (R:dU w0 ρ H w) {h:Nat} {o o':GO} {l:Fq} {X:Obj} (hg:H.get h=some o) (hl:ρ h=some l) (he:vV w0.O w0.w w') (hb:∀k,k≠l.b->w'.heap[k]? = w.heap[k]?) (ho:rB ρ w' l o') (hx:w'.heap[l.b]? = some X):
  ρ.le (ρ.upd H.n ⟨l.b,l.off,l.size,X,o'⟩)∧dU w0 (ρ.upd H.n ⟨l.b,l.off,l.size,X,o'⟩) (H.set h o') w':=by
 have hle:ρ.le (ρ.upd H.n ⟨l.b,l.off,l.size,X,o'⟩):=tP (R.fresh _ (Nat.le_refl _))
 have hsame:∀k,k≠H.n->(ρ.upd H.n ⟨l.b,l.off,l.size,X,o'⟩) k=ρ k:=fun k hk=>by simp[cS.upd,hk]
 have hself:(ρ.upd H.n ⟨l.b,l.off,l.size,X,o'⟩) H.n=some ⟨l.b,l.off,l.size,X,o'⟩:=by simp[cS.upd]
 have key:∀k x,(if k=h then some o' else H.get k)=some x->∃y,H.get k=some y:=fun k x hx=>by
  by_cases e:k=h
  ·subst e;exact⟨o,hg⟩
  ·rw[if_neg e]at hx;exact⟨x,hx⟩
 refine⟨hle,he,?_,?_,?_,?_,?_,fun i v e=>let ⟨l,a,b⟩:=R.env i v e;⟨l,hle _ _ a,b⟩⟩
 ·intro k x hk
  rw[nF]at hk
  by_cases e:k=h
  ·subst e;rw[if_pos rfl]at hk;cases hk
   obtain⟨l',hl',h0,_⟩:=R.live k o hg
   rw[hl]at hl';cases hl'
   exact⟨l,hle _ _ hl,h0,ho.move hle rfl⟩
  ·rw[if_neg e]at hk
   obtain⟨l',hl',h0,ho'⟩:=R.live k x hk
   refine⟨l',hle _ _ hl',h0,ho'.move hle (hb _ fun e'=>e (R.inj k h x o l' l hk hg hl' hl e'))⟩
 ·intro k k' o1 o2 l1 l2 h1 h2 hl1 hl2 hbb
  rw[nF]at h1 h2
  obtain⟨y1,hy1⟩:=key k o1 h1
  obtain⟨y2,hy2⟩:=key k' o2 h2
  rw[hsame k (Nat.ne_of_lt (R.lt hy1))]at hl1
  rw[hsame k' (Nat.ne_of_lt (R.lt hy2))]at hl2
  exact R.inj k k' y1 y2 l1 l2 hy1 hy2 hl1 hl2 hbb
 ·intro k hk
  have hk':H.n+1<=k:=hk
  rw[hsame k (by omega)]
  exact R.fresh k (by omega)
 ·intro k hk
  have hk:k<H.n+1:=hk
  by_cases e:k=H.n
  ·subst e;exact⟨_,hself⟩
  ·rw[hsame k e];exact R.dense k (by omega)
 ·intro k v l' hv hl'
  rw[Jm]at hv
  by_cases e:k=h
  ·subst e;rw[if_pos rfl]at hv;cases hv
   rw[hsame k (Nat.ne_of_lt (R.lt hg)),hl]at hl';cases hl'
   exact⟨_,hself,hx,by rw[nF,if_pos rfl]⟩
  ·rw[if_neg e]at hv
   obtain⟨p,hp,_⟩:=aB.1 (show ob (H.t.get k) _=some v from hv)
   have hgk:H.get k=some p.2:=by unfold GH.get;rw[hp];rfl
   rw[hsame k (Nat.ne_of_lt (R.lt hgk))]at hl'
   obtain⟨lv,h1,h2,h3⟩:=R.vers k v l' hv hl'
   exact⟨lv,hle _ _ h1,by rw[hb l'.b fun e'=>e (R.inj k h p.2 o l' l hgk hg hl' hl e')];exact h2,by rw[nF,if_neg e];exact h3⟩
theorem dU.del {gs:rK} {w0:cM gs} {w:World} {ρ:cS} {H:GH} (R:dU w0 ρ H w) (h:Nat):dU w0 ρ (H.del h) w:=by
 have key:∀k x,(H.del h).get k=some x->H.get k=some x:=fun k x hx=>by
  rw[AQ]at hx
  by_cases e:k=h
  ·rw[if_pos e]at hx;cases hx
  ·rw[if_neg e]at hx;exact hx
 exact⟨R.ext,fun k x hx=>R.live k x (key k x hx),fun k k' o1 o2 l1 l2 h1 h2=>R.inj k k' o1 o2 l1 l2 (key _ _ h1) (key _ _ h2),R.fresh,R.dense,fun k v l hv hl=>by
  rw[Jk]at hv
  by_cases e:k=h
  ·rw[if_pos e]at hv;cases hv
  ·rw[if_neg e]at hv
   obtain⟨lv,h1,h2,h3⟩:=R.vers k v l hv hl
   exact⟨lv,h1,h2,by rw[AQ,if_neg e];exact h3⟩,R.env⟩
theorem dU.ext' {gs:rK} {w0:cM gs} {w w':World} {ρ:cS} {H:GH} (R:dU w0 ρ H w) (e:CG w w'):dU w0 ρ H w':=
 ⟨R.ext.trans e,fun h o hg=>let ⟨l,a,b,c⟩:=R.live h o hg;⟨l,a,b,c.move (cS.le_refl _) (e.block _ c.lt)⟩,R.inj,R.fresh,R.dense,fun h v l hv hl=>by
  obtain⟨lv,h1,h2,h3⟩:=R.vers h v l hv hl
  exact⟨lv,h1,(by rw[e.block _ (Array.getElem?_eq_some_iff.1 h2).1];exact h2),h3⟩,R.env⟩
theorem dU.mono {gs gs':rK} {w0:cM gs} {w0':cM gs'} {w w':World} {ρ ρ':cS} {H H':GH} (R:dU w0 ρ H w) (R':dU w0' ρ' H' w') (hle:ρ.le ρ'):H.n<=H'.n:=by
 rcases Nat.lt_or_ge H'.n H.n with h|h
 ·obtain⟨l,hl⟩:=R.dense _ h
  have:=R'.fresh _ (Nat.le_refl _)
  rw[hle _ _ hl]at this;cases this
 ·exact h
def MV (ρ:cS) (H:GH) (k:Nat):Prop:=∃h o l,H.get h=some o∧ρ h=some l∧l.b=k
theorem dU.glo {gs:rK} {w0:cM gs} {w:World} {ρ:cS} {H:GH} (R:dU w0 ρ H w):xR gs w (MV ρ H):=fun p hp=>by
 obtain⟨h1,h2⟩:=w0.ok p hp
 have hlt:p.1<w0.w.heap.size:=(Array.getElem?_eq_some_iff.1 h1).1
 refine⟨by rw[R.ext.block p.1 hlt h2];exact h1,fun⟨h,o,l,hg,hl,e⟩=> ?_⟩
 obtain⟨l',hl',hb,_⟩:=R.live h o hg
 rw[hl]at hl';cases hl'
 rw[e]at hb
 rcases hb with hb|hb
 ·omega
 ·exact h2 hb
def dU.base {gs:rK} {w0:cM gs} {w:World} {ρ:cS} {H:GH} (R:dU w0 ρ H w):cM gs:=⟨w,MV ρ H,R.glo⟩
def cM.of {gs:rK} (w:World) (h:xR gs w fun _=>False):cM gs:=⟨w,fun _=>False,h⟩
def Qn:rK:=⟨[],[]⟩
def cM.one (w:World):cM Qn:= .of w fun _ h=>absurd h List.not_mem_nil
theorem dU.rebase {gs:rK} {w0:cM gs} {w:World} {ρ:cS} {H:GH} (R:dU w0 ρ H w):dU R.base ρ H w:=
 ⟨vV.refl _,fun h o hg=>let ⟨l,a,_,c⟩:=R.live h o hg;⟨l,a,.inr ⟨h,o,l,hg,a,rfl⟩,c⟩,R.inj,R.fresh,R.dense,R.vers,R.env⟩
theorem dU.back {gs:rK} {w0:cM gs} {w w':World} {ρ ρ':cS} {H H':GH} (R:dU w0 ρ H w) (R':dU R.base ρ' H' w'):dU w0 ρ' H' w'∧∀k,k<w.heap.size->¬MV ρ H k->w'.heap[k]? = w.heap[k]?:=by
 have hm:∀k,MV ρ H k->w0.mine k:=fun k ⟨h,o,l,hg,hl,e⟩=>by
  obtain⟨l',hl',hb,_⟩:=R.live h o hg
  rw[hl]at hl';cases hl'
  rw[<-e];exact hb
 refine⟨⟨⟨R'.ext.os.trans R.ext.os,R'.ext.tape.trans R.ext.tape,R'.ext.output.trans R.ext.output,Nat.le_trans R.ext.size R'.ext.size,fun k hk hO=> ?_⟩,fun h o hg=> ?_,R'.inj,R'.fresh,R'.dense,R'.vers,R'.env⟩,fun k hk hh=>R'.ext.block k hk hh⟩
 ·rw[R'.ext.block k (Nat.lt_of_lt_of_le hk R.ext.size) (fun hh=>by rcases hm k hh with h|h;exact absurd h (by omega);exact hO h)]
  exact R.ext.block k hk hO
 ·obtain⟨l,hl,hb,ho⟩:=R'.live h o hg
  refine⟨l,hl,?_,ho⟩
  rcases hb with hb|hb
  ·exact .inl (Nat.le_trans R.ext.size hb)
  ·exact hm _ hb
section
variable {P:Program} {tb:TB} {ρ:cS} {V U W:Value} {v u t g:GV} {gs:rK} {w0:cM gs} {w:World} {H H':GH}
theorem dU.alloc (R:dU w0 ρ H w) {cs:List GV} {a:Array Value} (T:TypeId) (hr:LP ρ cs a):
  ∃ρ',ρ.le ρ'∧ρ'=ρ.upd H.n ⟨w.heap.size,0,a.size,.cells a T,.cells cs⟩∧dU w0 ρ' (H.new (.cells cs)) (w.alloc (.cells a T)):=by
 have e:CG w (w.alloc (.cells a T)):=(Below.refl _ _).alloc (Nat.le_refl _) _
 have h:=R.new (o:= .cells cs) (l:=⟨w.heap.size,0,a.size,.cells a T,.cells cs⟩) (R.ext.trans e) (fun h o' l' hg hl=>by
  obtain⟨l,hl',_,ho⟩:=R.live h o' hg
  rw[hl]at hl';cases hl'
  exact⟨e.block _ ho.lt,Nat.ne_of_lt ho.lt⟩) (.inl R.ext.size) (by
  refine⟨a,T,heap_alloc_new w _,rfl,by have:=hr.r.len;simp at this;simp[this],fun i g hg=> ?_⟩
  obtain⟨x,hx,hrx⟩:=hr.r.get hg
  rw[Array.getElem?_toList]at hx
  exact⟨x,by simpa using hx,hrx.le (tP (R.fresh _ (Nat.le_refl _))),GM hr.one hx⟩) (heap_alloc_new w _)
 exact⟨_,h.1,rfl,h.2⟩
theorem SB {T:TypeId} (R:dU w0 ρ H w) (hv:Rl ρ v V) (h:lV v H=some (g,H')):Gp P w0 ρ (Instr.box T V) w g H':=by
 obtain⟨vc,hc,h⟩:=aB.1 (show ob v.cells _=some (g,H')from h)
 rw[gY]at h;cases h
 obtain⟨vs,e,hr,h1⟩:=hv.cells hc
 obtain⟨ρ',hle,rfl,R'⟩:=R.alloc T (cs:=vc) (a:=V.cells) (by rw[e];exact⟨hr,h1⟩)
 refine⟨_,_,_,?_,hle,R',.ptr (l:=⟨w.heap.size,0,V.cells.size,.cells V.cells T,.cells vc⟩) 0 (by simp[cS.upd])⟩
 simp[Instr.box,newVar,newRow]
theorem CC (hG:dK P tb) {T:TypeId} (R:dU w0 ρ H w) (h:bY tb T H=some (g,H')):Gp P w0 ρ (Instr.alloc T true (.tuple #[])) w g H':=by
 obtain⟨zc,hz,h⟩:=aB.1 (show ob (vR tb T) _=some (g,H')from h)
 rw[gY]at h;cases h
 obtain⟨d,hd,hT,hC⟩:=qJ (ρ:=ρ) hG hz
 obtain⟨ρ',hle,rfl,R'⟩:=R.alloc T hC
 exact⟨_,_,_,Cv w hT,hle,R',.ptr (l:=⟨w.heap.size,0,d.zero.cells.size,.cells d.zero.cells T,.cells zc⟩) 0 (by simp[cS.upd])⟩
theorem dU.cells (R:dU w0 ρ H w) {h:Nat} {cs:List GV} (hc:H.cells h=some cs) {l:Fq} (hl:ρ h=some l):rB ρ w l (.cells cs):=by
 obtain⟨l',hl',_,ho⟩:=R.live h _ (fD.1 hc)
 rw[hl]at hl';cases hl';exact ho
theorem EM (hG:dK P tb) {T:TypeId} (R:dU w0 ρ H w) (hv:Rl ρ v V) (h:bQ tb T v H=some g):∃(x:Value) (p:Nat×Nat) (l:Fq),v = .ptr p.1 p.2∧ρ p.1=some l∧(∃o,H.get p.1=some o)∧Rl ρ g x∧∀w',w'.heap[l.b]? = w.heap[l.b]? -> (Instr.loadAt T V).run P w' = .ok x w':=by
 obtain⟨p,hp,h⟩:=aB.1 (show ob v.asP _=some g from h)
 obtain⟨cs,hcs,h⟩:=aB.1 h
 obtain⟨t,ht,h⟩:=aB.1 h
 have hpe:=yJ hp
 have hg0:=fD.1 hcs
 rw[yJ hp]at hv
 obtain⟨l,hl,rfl⟩:=hv.ptr_inv
 obtain⟨cur,T',hb,hsz,hfit,hcell⟩:=R.cells hcs hl
 have hT:=hG.tab ht
 unfold u_ at h
 cases ha:sN t.desc with
 | true =>
  rw[ha]at h
  obtain⟨r,hs,h⟩:=aB.1 h
  cases h
  obtain⟨hbnd,rfl⟩:=Hm hs
  let vs:=((cur.toList.drop (l.off+p.2)).take t.size)
  have hlen:vs.length=t.size:=by simp[vs];omega
  have hrel:mQ ρ ((cs.drop p.2).take t.size) vs:=⟨by rw[hlen];simp;omega,fun i a b hai hbi=>by
   simp only[vs]at hbi
   rw[List.getElem?_take]at hai hbi
   by_cases hi:i<t.size
   ·rw[if_pos hi,List.getElem?_drop]at hai hbi
    obtain⟨x,h1,h2,_⟩:=hcell _ _ hai
    rw[Array.getElem?_toList,show l.off+p.2+i=l.off+(p.2+i) by omega,h1]at hbi
    cases hbi;exact h2
   ·rw[if_neg hi]at hai;cases hai⟩
  have hone:∀x∈vs,one x=true:=fun x hx=>by
   obtain⟨i,hi⟩:=List.mem_iff_getElem?.1 hx
   have hlt:=aR hi
   have hai:((cs.drop p.2).take t.size)[i]? = some (cs[p.2+i]'(by omega)):=by
    rw[List.getElem?_take,if_pos (by omega),List.getElem?_drop,List.getElem?_eq_getElem (by omega)]
   simp only[vs]at hi
   rw[List.getElem?_take,if_pos (by omega),List.getElem?_drop,Array.getElem?_toList,show l.off+p.2+i=l.off+(p.2+i) by omega]at hi
   obtain⟨y,h1,_,h3⟩:=hcell (p.2+i) _ (List.getElem?_eq_getElem (by omega))
   rw[h1]at hi;cases hi;exact h3
  refine⟨_,p,l,hpe,hl,⟨_,hg0⟩,Df hrel hone,fun w' hw'=> ?_⟩
  rw[hb]at hw'
  refine vA hT ha hlen (fun j x hx=> ?_)
  rw[dJ]
  have hlt:=aR hx
  simp only[vs]at hx
  rw[List.getElem?_take,if_pos (by omega),List.getElem?_drop,Array.getElem?_toList]at hx
  simp[World.cell?,hw',hx]
 |false=>
  rw[ha]at h
  rw[cond_false,oS]at h
  obtain⟨x,h1,h2,_⟩:=hcell _ _ h
  exact⟨x,p,l,hpe,hl,⟨_,hg0⟩,h2,fun w' hw'=>tM hT ha (by rw[hb]at hw';simp[World.cell?,hw',h1])⟩
theorem CE (hG:dK P tb) {T:TypeId} (R:dU w0 ρ H w) (hv:Rl ρ v V) (hu:Rl ρ u U) (h:aW tb T v u H=some (g,H')):g = .un∧∃w' ρ',(Instr.storeAt T V U).run P w = .ok () w'∧ρ.le ρ'∧dU w0 ρ' H' w':=by
 obtain⟨p,hp,h⟩:=aB.1 (show ob v.asP _=some (g,H')from h)
 obtain⟨cs,hcs,h⟩:=aB.1 h
 obtain⟨t,ht,h⟩:=aB.1 h
 obtain⟨uc,huc,h⟩:=aB.1 h
 obtain⟨hl1,h⟩:=bB.1 h
 obtain⟨h0,h⟩:=kG.1 h
 obtain⟨c1,hput,h⟩:=aB.1 h
 rw[rJ]at h
 cases h
 refine⟨rfl,?_⟩
 rw[yJ hp]at hv
 obtain⟨l,hl,rfl⟩:=hv.ptr_inv
 obtain⟨cur,T',hb,hsz,hfit,hcell⟩:=R.cells hcs hl
 obtain⟨us,eU,hus,hone⟩:=hu.cells huc
 have hT:=hG.tab ht
 have hlen:uc.length=t.size:=Nat.eq_of_beq_eq_true hl1
 have hul:uc.length=us.length:=hus.len
 have hne:uc≠[]:=by intro e;rw[e]at hlen;simp at hlen;rw[<-hlen]at h0;cases h0
 obtain⟨p1,p2,p3⟩:=Dn hput
 have p1:=p1 hne
 have hst:=run_storeCells_at P l.b (l.off+p.2) T' us 0 cur w hb (by omega) (fun x hx=>nQ (hone x hx))
 simp only[Nat.add_zero]at hst
 refine⟨w.setRow l.b (cur.toList.take (l.off+p.2)++us++cur.toList.drop (l.off+p.2+us.length)).toArray,_,?_,R.set (fD.1 hcs) hl ?_ (fun k hk=>setRow_other w l.b k _ hk) ?_ (setRow_heap w l.b _ _ T' _ hb)⟩
 ·have hs:=hT.run_size w
  simp only[Instr.storeAt,Instr.sureAddr,storeVar,eU]
  have e:us.toArray.size=t.size:=by simp;omega
  simp[hs,e,hst]
 ·obtain⟨l',hl',hbase,_⟩:=R.live _ _ (fD.1 hcs)
  rw[hl]at hl';cases hl'
  exact⟨R.ext.os,R.ext.tape,R.ext.output,by simpa using R.ext.size,fun k hk hO=>by
   rw[setRow_other w l.b k _ (fun e=>by subst e;rcases hbase with hbase|hbase;exact absurd hbase (by omega);exact hO hbase)];exact R.ext.block k hk hO⟩
 ·refine⟨_,T',setRow_heap w l.b _ _ T' _ hb,?_,by omega,fun i x hx=> ?_⟩
  ·simp;omega
  ·rw[p3 i]at hx
   have hcl:cur.toList.length=cur.size:=by simp
   have key:(cur.toList.take (l.off+p.2)++us++cur.toList.drop (l.off+p.2+us.length)).toArray[l.off+i]? = if p.2<=i∧i<p.2+us.length then us[i - p.2]? else cur[l.off+i]?:=by
    rw[List.getElem?_toArray,List.append_assoc]
    by_cases hi:i<p.2
    ·rw[if_neg (by omega),List.getElem?_append_left (by simp;omega),List.getElem?_take,if_pos (by omega),Array.getElem?_toList]
    ·rw[List.getElem?_append_right (by simp;omega),List.length_take]
     have e1:min (l.off+p.2) cur.toList.length=l.off+p.2:=by omega
     rw[e1]
     by_cases hi2:i<p.2+us.length
     ·rw[if_pos (by omega),List.getElem?_append_left (by omega)]
      congr 1;omega
     ·rw[if_neg (by omega),List.getElem?_append_right (by omega),List.getElem?_drop,Array.getElem?_toList]
      congr 1;omega
   by_cases hi:p.2<=i∧i<p.2+uc.length
   ·rw[if_pos hi]at hx
    obtain⟨y,hy,hr⟩:=hus.get hx
    exact⟨y,by rw[key,if_pos (by omega)];exact hy,hr,hone y (List.mem_of_getElem? hy)⟩
   ·rw[if_neg hi]at hx
    obtain⟨y,hy,hr⟩:=hcell i x hx
    exact⟨y,by rw[key,if_neg (by omega)];exact hy,hr⟩
end
end
section
section
variable {P:Program} {tb:TB} {ρ:cS} {V U W:Value} {v u t g:GV} {gs:rK} {w0:cM gs} {w:World} {H H':GH}
theorem BF (z:List GV):∀n,(Ji z n).length=n*z.length
 |0=>by show([]:List GV).length=_;simp
 |n+1=>by
  have:Ji z (n+1)=z++Ji z n:=rfl
  rw[this,List.length_append,BF z n,Nat.add_mul];omega
theorem Ll (z:List GV) (hz:0<z.length):∀(n i:Nat),i<n*z.length->(Ji z n)[i]? = z[i%z.length]?
 |0,i,h=>by simp at h
 |n+1,i,h=>by
  have:Ji z (n+1)=z++Ji z n:=rfl
  rw[this]
  by_cases hi:i<z.length
  ·rw[List.getElem?_append_left hi,Nat.mod_eq_of_lt hi]
  ·rw[List.getElem?_append_right (by omega),Ll z hz n (i - z.length) (by have:(n+1)*z.length=n*z.length+z.length:=Nat.succ_mul n z.length;omega),<-Nat.mod_eq_sub_mod (by omega)]
theorem Dt {zc:List GV} {z:Array Value} (hC:LP ρ zc z) (h0:0<zc.length) (n:Nat):LP ρ (Ji zc n) ((Array.range (n*zc.length)).map (z[· % z.size]!)):=by
 have hl:zc.length=z.size:=by have:=hC.r.len;simpa using this
 have hz:0<z.size:=by omega
 have hget:∀i,i<n*zc.length->z[i%z.size]? = some (z[i%z.size]!):=fun i _=>by
  have hm:i%z.size<z.size:=Nat.mod_lt _ hz
  rw[getElem!_pos z (i%z.size) hm];simp
 refine⟨⟨by simp[BF],fun i a b ha hb=> ?_⟩,fun x hx=> ?_⟩
 ·have hi:=aR ha
  rw[BF]at hi
  rw[Ll zc h0 n i hi]at ha
  have hb':some (z[i%z.size]!)=some b:=by
   rw[<-hb,Array.getElem?_toList]
   simp[hi]
  cases hb'
  refine hC.r.at' (i%zc.length) a _ ha ?_
  rw[Array.getElem?_toList,hl]
  exact hget i hi
 ·simp only[Array.toList_map,List.mem_map]at hx
  obtain⟨i,hi,rfl⟩:=hx
  have hi:i<n*zc.length:=by simpa using hi
  exact GM hC.one (hget i hi)
theorem AY {sz:Nat}:∀{l:List (Nat×GV)} {r0 cs:List GV},Cm sz l r0=some cs->cs.length=r0.length
 | [],r0,cs,h=>by cases h;rfl
 |p::l,r0,cs,h=>by
  obtain⟨cc,hcc,h⟩:=aB.1 (show ob p.2.cells (fun cc=>bif Nat.beq cc.length sz then(bif Nat.beq sz 0 then none else ob (Bw cc (Nat.mul p.1 sz) r0) (Cm sz l))else none)=some cs from h)
  obtain⟨_,h⟩:=bB.1 h
  obtain⟨_,h⟩:=kG.1 h
  obtain⟨c1,hg,h⟩:=aB.1 h
  rw[AY h]
  exact(Dn hg).2.1
theorem Kq (hG:dK P tb) {T:TypeId} {n:Nat} {l:List (Nat×GV)} {parts:List (Nat×Value)} (R:dU w0 ρ H w) (hp:Va ρ l parts) (h:cV tb T n l H=some (g,H')):Gp P w0 ρ (Instr.buildSlice T n parts.toArray) w g H':=by
 obtain⟨te,hte,h⟩:=aB.1 (show ob (tU tb T) _=some (g,H')from h)
 obtain⟨zc,hz,h⟩:=aB.1 h
 obtain⟨hlen,h⟩:=bB.1 h
 obtain⟨hbig,h⟩:=bB.1 h
 obtain⟨h0,h⟩:=kG.1 h
 obtain⟨cs,hfill,h⟩:=aB.1 h
 rw[gY]at h;cases h
 obtain⟨⟨d,hd,hde⟩,hE,htab⟩:=rR hG hte
 obtain⟨dz,hdz,_,hC⟩:=qJ (ρ:=ρ) hG hz
 rw[htab]at hdz;cases hdz
 have hlen:zc.length=te.2.size:=Nat.eq_of_beq_eq_true hlen
 have h0:te.2.size≠0:=fun e=>by rw[e]at h0;cases h0
 have hbig:n*te.2.size<16777216:=by simpa [Nat.blt_eq]using hbig
 have hrep:=Dt hC (by omega) n
 rw[hlen]at hrep
 obtain⟨a',f1,f2⟩:=Ae hp hrep hfill
 obtain⟨ρ',hle,rfl,R'⟩:=R.alloc te.1 f2
 have hsz:a'.size=n*te.2.size:=by
  have e1:=f2.r.len
  have:cs.length=(Ji zc n).length:=AY hfill
  rw[this,BF,hlen]at e1
  simp at e1;omega
 refine⟨_,_,_,?_,hle,R',.sl (l:=⟨w.heap.size,0,a'.size,.cells a' te.1,.cells cs⟩) (cap:=n) (A:=⟨w.heap.size,0,none⟩) (by simp[cS.upd]) (Nat.le_refl _) (.inr ⟨rfl,by simp[hsz]⟩)⟩
 have hu:=hd.run_und w
 rw[hde]at hu
 by_cases hn:n*te.2.size=0
 ·have hz0:n=0:=by rcases Nat.mul_eq_zero.1 hn with h|h;exact h;exact absurd h h0
  subst hz0
  have e0:(Array.range (0*te.2.size)).map (te.2.zero.cells[· % te.2.zero.cells.size]!)=(#[]:Array Value):=by simp
  rw[e0]at f1
  have e1:(Array.range 0).map (fun _=>(default:Value)) = #[]:=by simp
  simp[Instr.buildSlice,hu,hE.run_size w,newRow]
  simp[e1,f1]
 ·simp[Instr.buildSlice,hu,hE.run_size w,hE.run_zero w,hn,f1,newRow,show¬(16777216<n*te.2.size) by omega]
theorem PW (hG:dK P tb) {T:TypeId} (R:dU w0 ρ H w) (hv:Rl ρ v V) (hu:Rl ρ u U) (h:EN tb T v u H=some (g,H')):Gp P w0 ρ (Instr.makeSlice T V U) w g H':=by
 obtain⟨te,hte,h⟩:=aB.1 (show ob (tU tb T) _=some (g,H')from h)
 obtain⟨zc,hz,h⟩:=aB.1 h
 obtain⟨k,hk,h⟩:=aB.1 h
 obtain⟨c,hc,h⟩:=aB.1 h
 obtain⟨heq,h⟩:=bB.1 h
 obtain⟨n,hn,h⟩:=aB.1 h
 obtain⟨hlen,h⟩:=bB.1 h
 obtain⟨hby,h⟩:=bB.1 h
 obtain⟨hn2,h⟩:=bB.1 h
 obtain⟨h0,h⟩:=kG.1 h
 rw[SO,gY]at h;cases h
 obtain⟨⟨d,hd,hde⟩,hE,htab⟩:=rR hG hte
 obtain⟨dz,hdz,_,hC⟩:=qJ (ρ:=ρ) hG hz
 rw[htab]at hdz;cases hdz
 have hlen:zc.length=te.2.size:=Nat.eq_of_beq_eq_true hlen
 have h0:te.2.size≠0:=fun e=>by rw[e]at h0;cases h0
 have hby:n*te.2.bytes<16777216:=by simpa [Nat.blt_eq]using hby
 have hn2:n<16777216:=by simpa [Nat.blt_eq]using hn2
 rw[k_ hk]at hv
 rw[k_ hc]at hu
 rw[Ea]at heq
 have heq:=of_decide_eq_true heq
 rw[hv.int_inv,hu.int_inv,<-heq,BZ hn]
 have hrep:=Dt hC (by omega) n
 rw[hlen]at hrep
 obtain⟨ρ',hle,rfl,R'⟩:=R.alloc te.1 hrep
 obtain⟨iE,hiE,hs,hb,hze⟩:=hE.info
 have hund:=hd.und
 rw[hde]at hund
 have hbb:(iE.bytes:Int)*(n:Int)<=281474976710656:=by
  have e:(te.2.bytes:Int)*(n:Int)=((n*te.2.bytes:Nat):Int):=by rw[Nat.mul_comm];simp
  rw[hb,e];omega
 have hr:=run_make (P:=P) w T te.1 iE te.2.zero hund hiE hze k.1 c.1 n n (by omega) (Int.le_refl _) hbb (by omega)
 refine⟨_,_,_,?_,hle,R',.sl (l:=⟨w.heap.size,0,((Array.range (n*te.2.size)).map (te.2.zero.cells[· % te.2.zero.cells.size]!)).size,.cells ((Array.range (n*te.2.size)).map (te.2.zero.cells[· % te.2.zero.cells.size]!)) te.1,.cells (Ji zc n)⟩) (cap:=n) (A:=⟨w.heap.size,0,none⟩) (by simp[cS.upd]) (Nat.le_refl _) (.inr ⟨rfl,by simp⟩)⟩
 rw[hr]
 simp[madeCells,hs]
theorem Tm {o:Option GV} {O:Option Value} {d n:Nat} (hr:(o=none∧O=none)∨∃g x,o=some g∧O=some x∧Rl ρ g x) (h:vB o d=some n):(o=none∧O=none∧n=d)∨∃k:IntKind,O=some (.int k n):=by
 rcases hr with⟨rfl,rfl⟩|⟨g,x,rfl,rfl,hx⟩
 ·cases h;exact .inl ⟨rfl,rfl,rfl⟩
 ·obtain⟨a,ha,h⟩:=aB.1 (show ob g.asI _=some n from h)
  rw[k_ ha]at hx
  exact .inr ⟨a.1,by rw[hx.int_inv,BZ h]⟩
def Vl (ρ:cS) (o:Option GV) (O:Option Value):Prop:=(o=none∧O=none)∨∃g x,o=some g∧O=some x∧Rl ρ g x
theorem xK {sl:Bool} {len cap l h:Nat} {lo hi:Option GV} {LO HI:Option Value} (hlo:Vl ρ lo LO) (hhi:Vl ρ hi HI) (h1:vB lo 0=some l) (h2:vB hi len=some h) (hle:l<=h) (hc:h<=cap) (w:World):
  (Instr.sliceBounds sl len cap LO HI none).run P w = .ok (l,h,cap) w:=by
 rcases Tm hlo h1 with⟨_,rfl,rfl⟩|⟨k1,rfl⟩<;>rcases Tm hhi h2 with⟨_,rfl,rfl⟩|⟨k2,rfl⟩
 ·simp[Instr.sliceBounds]
 ·simp[Instr.sliceBounds,Instr.sliceBound,asIntOf,hc]
 ·simp[Instr.sliceBounds,Instr.sliceBound,asIntOf,hle]
 ·simp[Instr.sliceBounds,Instr.sliceBound,asIntOf,hle,hc]
theorem Gj (hG:dK P tb) {T:TypeId} {lo hi:Option GV} {LO HI:Option Value} (R:(∃(w0:cM gs) (w:World),dU w0 ρ H w)∨∀t,tb T=some t->UU t.desc=none) (hv:Rl ρ v V) (hlo:Vl ρ lo LO) (hhi:Vl ρ hi HI) (h:oZ tb T v lo hi H=some g):wP P ρ (Instr.sliceAt T V LO HI none) g:=by
 obtain⟨l,hl,h⟩:=aB.1 (show ob (vB lo 0) _=some g from h)
 obtain⟨t,ht,h⟩:=aB.1 h
 have hT:=hG.tab ht
 cases hs:v.asStr with
 | some s =>
  rw[hs]at h
  obtain⟨e,he,h⟩:=aB.1 (show ob (vB hi s.2) _=some g from h)
  obtain⟨hd,h⟩:=bB.1 h
  obtain⟨hle,h⟩:=bB.1 (show(bif Nat.ble l e then _ else none)=some g from h)
  obtain⟨hlen,h⟩:=bB.1 h
  simp only[rE]at h
  cases h
  have hle:l<=e:=by simpa using hle
  have hlen:e<=s.2:=by simpa using hlen
  rw[lL hs]at hv
  obtain⟨r,rfl,e1,e2⟩:=hv.str_inv
  have hsz:r.size=s.2:=by rw[e2];exact Lib.size_eq r
  have hx:=Lib.extract_data r l e
  refine⟨.string (r.extract l e),?_,fun w=> ?_⟩
  ·have:Rl ρ (.str (iO (aY (r.extract l e))) (aY (r.extract l e)).length) (.string (r.extract l e)):= .str _
   have e3:aY (r.extract l e)=((aY r).drop l).take (e - l):=hx
   rw[e3]at this
   rw[e1,NW]
   have e4:(((aY r).drop l).take (e - l)).length=Nat.sub e l:=by
    simp only[List.length_take,List.length_drop,<-e2]
    show _=e - l
    omega
   rw[e4]at this
   exact this
  ·have hu:=hT.run_und w
   rw[uL hd]at hu
   have hb:=xK (P:=P) (sl:=false) (cap:=s.2) hlo hhi hl he hle hlen w
   simp[Instr.sliceAt,hu,Instr.slice,hsz,hb]
 | none =>
  rw[hs]at h
  cases hS:v.asS with
  | some s =>
   simp only[hS]at h
   obtain⟨E,hE,h⟩:=aB.1 (show ob (Qp t.desc) _=some g from h)
   obtain⟨te,hte,h⟩:=aB.1 h
   obtain⟨e,he,h⟩:=aB.1 h
   obtain⟨hsz,h⟩:=bB.1 (show(bif Nat.beq te.size s.2.2.2 then _ else none)=some g from h)
   obtain⟨hle,h⟩:=bB.1 h
   obtain⟨hlen,h⟩:=bB.1 h
   simp only[rE]at h
   cases h
   have hsz:te.size=s.2.2.2:=Nat.eq_of_beq_eq_true hsz
   have hle:l<=e:=by simpa using hle
   have hlen:e<=s.2.2.1:=by simpa using hlen
   rw[vF hS]at hv
   obtain⟨lc,cap,A,hlc,rfl,hc,ha⟩:=hv.sl_inv
   refine⟨.slice (if cap=l then some A else(some A).map (·.add (l*te.size))) (e - l) (cap - l),?_,fun w=> ?_⟩
   ·have e1:(if cap=l then some A else(some A).map (·.add (l*te.size)))=some (if cap=l then A else A.add (l*te.size)):=by split<;>rfl
    rw[e1]
    refine .sl hlc (show e - l<=cap - l by omega) ?_
    by_cases hcl:cap - l=0
    ·exact .inl hcl
    ·right
     rw[if_neg (by omega)]
     rcases ha with ha|⟨rfl,hb⟩
     ·omega
     ·rw[dJ]
      refine⟨by show _=(⟨lc.b,lc.off+(s.2.1+l*te.size),none⟩:Addr);rw[Nat.add_assoc],?_⟩
      have:cap*s.2.2.2=l*te.size+(cap - l)*te.size:=by rw[<-hsz,<-Nat.add_mul];congr 1;omega
      show lc.off+(s.2.1+l*te.size)+(cap - l)*te.size<=lc.size
      omega
   ·have hu:=hT.run_und w
    rw[Bd hE]at hu
    have hb:=xK (P:=P) (sl:=true) (cap:=cap) hlo hhi hl he hle (by omega) w
    simp[Instr.sliceAt,hu,Instr.slice,hb,(hG.tab hte).run_size w]
  | none =>
   simp only[hS]at h
   cases hz:v.isSnil with
   |true=>
    rw[hz]at h
    obtain⟨E,hE,h⟩:=aB.1 (show ob (Qp t.desc) _=some g from h)
    obtain⟨te,hte,h⟩:=aB.1 h
    obtain⟨e,he,h⟩:=aB.1 h
    obtain⟨h0,h⟩:=bB.1 h
    obtain⟨h1,h⟩:=bB.1 h
    cases h
    have h0:l=0:=Nat.eq_of_beq_eq_true h0
    have h1:e=0:=Nat.eq_of_beq_eq_true h1
    subst h0 h1
    rw[qH hz]at hv
    rw[hv.snil_inv]
    refine⟨_,.snil,fun w=> ?_⟩
    have hu:=hT.run_und w
    rw[Bd hE]at hu
    have hb:=xK (P:=P) (sl:=true) (len:=0) (cap:=0) hlo hhi hl he (Nat.le_refl _) (Nat.le_refl _) w
    simp[Instr.sliceAt,hu,Instr.slice,hb,(hG.tab hte).run_size w]
   |false=>
   rw[hz]at h
   obtain⟨p,hp,h⟩:=aB.1 (show ob v.asP _=some g from h)
   obtain⟨E,hE,h⟩:=aB.1 h
   obtain⟨te,hte,h⟩:=aB.1 h
   obtain⟨e,he,h⟩:=aB.1 h
   obtain⟨cs,hcs,h⟩:=aB.1 h
   obtain⟨hfit,h⟩:=bB.1 h
   obtain⟨hle,h⟩:=bB.1 (show(bif Nat.ble l e then _ else none)=some g from h)
   obtain⟨hlen,h⟩:=bB.1 h
   obtain⟨h0,h⟩:=kG.1 h
   simp only[rE]at h
   cases h
   have hfit:p.2+E.1*te.size<=cs.length:=by simpa using hfit
   have hle:l<=e:=by simpa using hle
   have hlen:e<=E.1:=by simpa using hlen
   rw[yJ hp]at hv
   obtain⟨lc,hlc,rfl⟩:=hv.ptr_inv
   rcases R with⟨w0,w,R⟩|R
   rotate_left
   ·rw[R t ht]at hE;cases hE
   obtain⟨cur,T',hb,hcs2,hfit2,_⟩:=R.cells hcs hlc
   refine⟨.slice (some (if E.1=l then⟨lc.b,lc.off+p.2,none⟩else Addr.add ⟨lc.b,lc.off+p.2,none⟩ (l*te.size))) (e - l) (E.1 - l),?_,fun w=> ?_⟩
   ·refine .sl hlc (show e - l<=E.1 - l by omega) ?_
    by_cases hcl:E.1 - l=0
    ·exact .inl hcl
    ·right
     rw[if_neg (by omega),dJ]
     refine⟨by show _=(⟨lc.b,lc.off+(p.2+l*te.size),none⟩:Addr);rw[Nat.add_assoc],?_⟩
     have:E.1*te.size=l*te.size+(E.1 - l)*te.size:=by rw[<-Nat.add_mul];congr 1;omega
     show lc.off+(p.2+l*te.size)+(E.1 - l)*te.size<=lc.size
     omega
   ·have hu:=hT.run_und w
    rw[Km hE]at hu
    have hb:=xK (P:=P) (sl:=false) (cap:=E.1) hlo hhi hl he hle hlen w
    simp[Instr.sliceAt,hu,Instr.sureAddr,hb,(hG.tab hte).run_size w]
end
end
section
section
variable {P:Program} {tb:TB} {ρ:cS} {V U W:Value} {v u t g:GV} {gs:rK} {w0:cM gs} {w:World} {H H':GH}
structure LJ (ρ:cS) (w:World) (sz n:Nat) (r:List GV) (V:Value) (ns:List Value):Prop where
 rel:mQ ρ r ns
 len:ns.length=n*sz
 one:∀x∈ns,Go.Sx.one x=true
 val:∃base cap,V = .slice base n cap∧n<=cap∧((base=none∧n=0∧cap=0)∨∃A,base=some A∧∀(j:Nat) x,ns[j]? = some x->w.cell? (A.add j)=some x)
theorem wZ (R:dU w0 ρ H w) {sz:Nat} {p:Nat×List GV} (hv:Rl ρ v V) (h:nW H sz v=some p):∃ns,LJ ρ w sz p.1 p.2 V ns:=by
 unfold nW at h
 cases hz:v.isSnil with
 |true=>
  rw[hz]at h;cases h
  rw[qH hz]at hv
  exact⟨[],.nil,by simp,fun x hx=>by simp at hx,none,0,hv.snil_inv,Nat.le_refl _,.inl ⟨rfl,rfl,rfl⟩⟩
 | false =>
  rw[hz]at h
  obtain⟨s,hs,h⟩:=aB.1 (show ob v.asS _=some p from h)
  obtain⟨hsz,h⟩:=bB.1 h
  obtain⟨cs,hcs,h⟩:=aB.1 h
  obtain⟨r,hr,h⟩:=aB.1 h
  cases h
  have hsz:s.2.2.2=sz:=Nat.eq_of_beq_eq_true hsz
  obtain⟨hb,rfl⟩:=Hm hr
  have hb:s.2.1+s.2.2.1*sz<=cs.length:=hb
  rw[vF hs]at hv
  obtain⟨l,cap,A,hl,rfl,hc,ha⟩:=hv.sl_inv
  obtain⟨cur,T,hh,hsize,hfit,hcell⟩:=R.cells hcs hl
  let ns:=(cur.toList.drop (l.off+s.2.1)).take (s.2.2.1*sz)
  have hlen:ns.length=s.2.2.1*sz:=by simp[ns];omega
  have hrel:mQ ρ ((cs.drop s.2.1).take (s.2.2.1*sz)) ns:=⟨by rw[hlen];simp;omega,fun i a b hai hbi=>by
   simp only[ns]at hbi
   rw[List.getElem?_take]at hai hbi
   by_cases hi:i<s.2.2.1*sz
   ·rw[if_pos hi,List.getElem?_drop]at hai hbi
    obtain⟨x,h1,h2,_⟩:=hcell _ _ hai
    rw[Array.getElem?_toList,show l.off+s.2.1+i=l.off+(s.2.1+i) by omega,h1]at hbi
    cases hbi;exact h2
   ·rw[if_neg hi]at hai;cases hai⟩
  have hnx:∀(j:Nat) x,ns[j]? = some x->j<s.2.2.1*sz∧cur[l.off+(s.2.1+j)]? = some x:=fun j x hx=>by
   have hlt:=aR hx
   simp only[ns]at hx
   rw[List.getElem?_take,if_pos (by omega),List.getElem?_drop,Array.getElem?_toList,show l.off+s.2.1+j=l.off+(s.2.1+j) by omega]at hx
   exact⟨by omega,hx⟩
  refine⟨ns,hrel,hlen,fun x hx=> ?_,_,cap,rfl,hc,.inr ⟨A,rfl,fun j x hx=> ?_⟩⟩
  ·obtain⟨i,hi⟩:=List.mem_iff_getElem?.1 hx
   obtain⟨h1,h2⟩:=hnx i x hi
   obtain⟨y,h3,_,h4⟩:=hcell (s.2.1+i) _ (List.getElem?_eq_getElem (by omega))
   rw[h2]at h3;cases h3;exact h4
  ·obtain⟨h1,h2⟩:=hnx j x hx
   rcases ha with ha|⟨rfl,_⟩
   ·have:s.2.2.1=0:=by omega
    rw[this]at h1;simp at h1
   ·rw[dJ,show l.off+s.2.1+j=l.off+(s.2.1+j) by omega]
    simp[World.cell?,hh,h2]
theorem LJ.src {sz n:Nat} {r:List GV} {ns:List Value} (h:LJ ρ w sz n r V ns) {T E:TypeId} (hu:P.underlying T=some (.slice E)):Src P sz T V n ns w:=by
 obtain⟨base,cap,rfl,_,hh⟩:=h.val
 have hone:∀x∈ns,x.oneCell'=true:=fun x hx=>nQ (h.one x hx)
 rcases hh with⟨rfl,rfl,rfl⟩|⟨A,rfl,hc⟩
 ·have:ns=[]:=List.eq_nil_of_length_eq_zero (by have:=h.len;simpa using this)
  subst this
  exact Src.ofNil w hu 0
 ·exact Src.ofSlice w hu A n cap ns h.len hc hone
theorem LJ.old {sz n:Nat} {r:List GV} {ns:List Value} (h:LJ ρ w sz n r V ns):(Builtin.firstCells sz n V).run P w.drew = .ok ns.toArray w.drew:=by
 obtain⟨base,cap,rfl,_,hh⟩:=h.val
 rcases hh with⟨rfl,rfl,rfl⟩|⟨A,rfl,hc⟩
 ·have:ns=[]:=List.eq_nil_of_length_eq_zero (by have:=h.len;simpa using this)
  subst this
  exact run_firstCells_none w.drew sz 0 0 0
 ·exact run_firstCells_some w.drew sz n A n cap ns h.len hc
theorem dU.alloc' (R:dU w0 ρ H w) {cs:List GV} {a:Array Value} (T:TypeId) (hl:cs.length<=a.size) (hr:∀(i:Nat) g,cs[i]? = some g->∃x,a[i]? = some x∧Rl ρ g x∧one x=true):
  ∃ρ',ρ.le ρ'∧ρ'=ρ.upd H.n ⟨w.heap.size,0,a.size,.cells a T,.cells cs⟩∧dU w0 ρ' (H.new (.cells cs)) (w.alloc (.cells a T)):=by
 have e:CG w (w.alloc (.cells a T)):=(Below.refl _ _).alloc (Nat.le_refl _) _
 have h:=R.new (o:= .cells cs) (l:=⟨w.heap.size,0,a.size,.cells a T,.cells cs⟩) (R.ext.trans e) (fun h o' l' hg hl=>by
  obtain⟨l,hl',_,ho⟩:=R.live h o' hg
  rw[hl]at hl';cases hl'
  exact⟨e.block _ ho.lt,Nat.ne_of_lt ho.lt⟩) (.inl R.ext.size) (by
  refine⟨a,T,heap_alloc_new w _,rfl,by simpa using hl,fun i g hg=> ?_⟩
  obtain⟨x,hx,hrx,h1⟩:=hr i g hg
  exact⟨x,by simpa using hx,hrx.le (tP (R.fresh _ (Nat.le_refl _))),h1⟩) (heap_alloc_new w _)
 exact⟨_,h.1,rfl,h.2⟩
theorem JJ {sz:Nat} {p:Nat×List GV} {s:Nat×Nat×Nat×Nat} (h:nW H sz v=some p) (hs:v.asS=some s):s.2.2.2=sz∧∃cs,H.cells s.1=some cs∧s.2.1+s.2.2.1*sz<=cs.length∧p.1=s.2.2.1:=by
 unfold nW at h
 have hnz:v.isSnil=false:=by rw[vF hs];rfl
 rw[hnz]at h
 obtain⟨s',hs',h⟩:=aB.1 (show ob v.asS _=some p from h)
 rw[hs]at hs';cases hs'
 obtain⟨hsz,h⟩:=bB.1 h
 obtain⟨cs,hcs,h⟩:=aB.1 h
 obtain⟨r,hr,h⟩:=aB.1 h
 cases h
 exact⟨Nat.eq_of_beq_eq_true hsz,cs,hcs,(Hm hr).1,rfl⟩
theorem LS (R:dU w0 ρ H w) {hh off k sz m cap:Nat} {l:Fq} {cs p2 q2:List GV} {ns1 ns2:List Value} (hcs:H.cells hh=some cs) (hl:ρ hh=some l) (c1:LJ ρ w sz k p2 (.slice (some ⟨l.b,l.off+off,none⟩) k cap) ns1)
  (r2:mQ ρ q2 ns2) (l2:ns2.length=m*sz) (o2:∀x∈ns2,one x=true) (hroom:k+m<=cap) (hbound:l.off+off+cap*sz<=l.size):
  ∃cur T',w.heap[l.b]? = some (.cells cur T' (0,0))∧l.off+off+cap*sz<=cur.size∧ρ.le (ρ.upd H.n ⟨l.b,l.off+off,l.size,(.cells (cur.toList.take (l.off+off+k*sz)++ns2++cur.toList.drop (l.off+off+k*sz+ns2.length)).toArray T'),.cells (p2++q2)⟩)∧
   dU w0 (ρ.upd H.n ⟨l.b,l.off+off,l.size,(.cells (cur.toList.take (l.off+off+k*sz)++ns2++cur.toList.drop (l.off+off+k*sz+ns2.length)).toArray T'),.cells (p2++q2)⟩) ((H.del hh).new (.cells (p2++q2))) (w.setRow l.b (cur.toList.take (l.off+off+k*sz)++ns2++cur.toList.drop (l.off+off+k*sz+ns2.length)).toArray):=by
 obtain⟨cur,T',hb,hsize,hfit,hcell⟩:=R.cells hcs hl
 have hmul:k*sz+m*sz<=cap*sz:=by rw[<-Nat.add_mul];exact Nat.mul_le_mul_right _ hroom
 have hcl:cur.toList.length=cur.size:=by simp
 obtain⟨l0,hl0,hbase0,_⟩:=R.live _ _ (fD.1 hcs)
 rw[hl]at hl0;cases hl0
 have l1:=c1.len
 have e1:p2.length=k*sz:=by rw[c1.rel.len];exact l1
 have e2:q2.length=m*sz:=by rw[r2.len];exact l2
 have hnew:=(R.del hh).new (o:= .cells (p2++q2)) (l:=⟨l.b,l.off+off,l.size,(.cells (cur.toList.take (l.off+off+k*sz)++ns2++cur.toList.drop (l.off+off+k*sz+ns2.length)).toArray T'),.cells (p2++q2)⟩)
  (w':=w.setRow l.b (cur.toList.take (l.off+off+k*sz)++ns2++cur.toList.drop (l.off+off+k*sz+ns2.length)).toArray)
  ⟨R.ext.os,R.ext.tape,R.ext.output,by simpa using R.ext.size,fun k hk hO=>by
   rw[setRow_other w l.b k _ (fun e=>by subst e;rcases hbase0 with hbase|hbase;exact absurd hbase (by omega);exact hO hbase)];exact R.ext.block k hk hO⟩
  (fun h o' l' hg hl'=>by
   rw[AQ]at hg
   by_cases e:h=hh
   ·rw[if_pos e]at hg;cases hg
   ·rw[if_neg e]at hg
    have hne:l'.b≠l.b:=fun e'=>e (R.inj h hh o' _ l' l hg (fD.1 hcs) hl' hl e')
    exact⟨setRow_other w l.b l'.b _ hne,hne⟩) hbase0 (by
   refine⟨_,T',setRow_heap w l.b _ _ T' _ hb,?_,?_,fun i x hx=> ?_⟩
   ·simp;omega
   ·show l.off+off+(p2++q2).length<=l.size
    rw[List.length_append,e1,e2];omega
   ·have hle0:ρ.le (ρ.upd (H.del hh).n ⟨l.b,l.off+off,l.size,(.cells (cur.toList.take (l.off+off+k*sz)++ns2++cur.toList.drop (l.off+off+k*sz+ns2.length)).toArray T'),.cells (p2++q2)⟩):=tP (R.fresh _ (Nat.le_refl _))
    have hil:=aR hx
    rw[List.length_append,e1,e2]at hil
    obtain⟨y,hy,hr⟩:=(c1.rel.append r2).get hx
    refine⟨y,?_,hr.le hle0,?_⟩
    ·show(cur.toList.take (l.off+off+k*sz)++ns2++cur.toList.drop (l.off+off+k*sz+ns2.length)).toArray[l.off+off+i]? = some y
     rw[List.getElem?_toArray,List.append_assoc]
     by_cases hi:i<k*sz
     ·rw[List.getElem?_append_left (by simp;omega),List.getElem?_take,if_pos (by omega),Array.getElem?_toList]
      rw[List.getElem?_append_left (by omega)]at hy
      obtain⟨base',cap2,hV2,_,hh2⟩:=c1.val
      cases hV2
      rcases hh2 with⟨h1,_⟩|⟨A,hA,hAc⟩
      ·cases h1
      ·cases hA
       have:=hAc i y hy
       rw[dJ]at this
       simpa [World.cell?,hb]using this
     ·rw[List.getElem?_append_right (by simp;omega),List.length_take,show min (l.off+off+k*sz) cur.toList.length=l.off+off+k*sz by omega]
      rw[List.getElem?_append_right (by omega),l1]at hy
      rw[List.getElem?_append_left (by omega)]
      rw[<-hy];congr 1;omega
    ·rcases List.mem_append.1 (List.mem_of_getElem? hy)with hm|hm
     ·exact c1.one y hm
     ·exact o2 y hm) (setRow_heap w l.b _ _ T' _ hb)
 exact⟨cur,T',hb,by omega,hnew.1,hnew.2⟩
theorem PN (hG:dK P tb) {T T' ty:TypeId} (R:dU w0 ρ H w) (hv:Rl ρ v V) (hu:Rl ρ u U) (h:PM tb T T' v u H=some (g,H')):Gp P w0 ρ (Builtin.append_ #[T,T'] ty #[V,U]) w g H':=by
 unfold PM at h
 obtain⟨hvz,h⟩:=bB.1 h
 obtain⟨te,hte,h⟩:=aB.1 h
 obtain⟨t',ht',h⟩:=aB.1 h
 obtain⟨kn,hkn,h⟩:=aB.1 h
 obtain⟨zc,hz,h⟩:=aB.1 h
 obtain⟨k,hk,h⟩:=aB.1 h
 obtain⟨n,hn,h⟩:=aB.1 h
 obtain⟨hlen,h⟩:=bB.1 h
 obtain⟨hby,h⟩:=bB.1 h
 obtain⟨h0,h⟩:=kG.1 h
 obtain⟨hn0,h⟩:=kG.1 h
 rw[SO,gY]at h;cases h
 obtain⟨⟨d,hd,hde⟩,hE,htab⟩:=rR hG hte
 obtain⟨dz,hdz,_,hC⟩:=qJ (ρ:=ρ) hG hz
 rw[htab]at hdz;cases hdz
 have hlen:zc.length=te.2.size:=Nat.eq_of_beq_eq_true hlen
 have h0:te.2.size≠0:=fun e=>by rw[e]at h0;cases h0
 have hn0:n≠0:=fun e=>by rw[e]at hn0;cases hn0
 have hby:n*(te.2.bytes+1)<16777216:=by simpa [Nat.blt_eq]using hby
 have hb1:n*te.2.bytes+n<16777216:=by rw[Nat.mul_add,Nat.mul_one]at hby;exact hby
 rw[qH hvz]at hv
 have hV:=hv.snil_inv
 subst hV
 rw[k_ hk]at hu
 rw[hu.int_inv,BZ hn]
 obtain⟨iE,hiE,hs,hb,hze⟩:=hE.info
 have hund:=hd.und
 rw[hde]at hund
 have hund':=(hG.tab ht').und
 rw[Bc hkn]at hund'
 have hr:=Lib.run_append_nil_zeros (P:=P) w T T' ty te.1 iE te.2.zero k.1 kn hund hund' hiE hze n (by omega) (by omega) (by omega) (by rw[hb];omega)
 have hzs:te.2.zero.cells.size=te.2.size:=by have:=hC.r.len;simp at this;omega
 have hge:=grownCap_ge w n 0 te.1
 have hrep:=Dt hC (by omega) n
 have hrl:=hrep.r.len
 have hx:Builtin.zeroCells te.2.zero.cells n=(Array.range (n*zc.length)).map (te.2.zero.cells[· % te.2.zero.cells.size]!):=by
  unfold Builtin.zeroCells
  rw[hzs,hlen]
 rw[<-hx]at hrep hrl
 obtain⟨ρ',hle,rfl,R'⟩:=R.alloc' (cs:=Ji zc n) (a:=Builtin.zeroCells te.2.zero.cells n++Builtin.zeroCells te.2.zero.cells (grownCap w n 0 te.1 - n)) te.1 (by
   simp only[Array.size_append];have:(Ji zc n).length=(Builtin.zeroCells te.2.zero.cells n).size:=by simpa using hrl
   omega) (fun i x hxi=>by
  obtain⟨y,hy,hry⟩:=hrep.r.get hxi
  have hy':(Builtin.zeroCells te.2.zero.cells n)[i]? = some y:=by simpa using hy
  exact⟨y,by rw[Array.getElem?_append_left (by simpa using aR hy)];exact hy',hry,hrep.one y (by simpa using List.mem_of_getElem? hy)⟩)
 refine⟨_,_,_,hr,hle,R'.ext' ((Below.refl _ _).drew),?_⟩
 refine .sl (l:=⟨w.heap.size,0,(Builtin.zeroCells te.2.zero.cells n++Builtin.zeroCells te.2.zero.cells (grownCap w n 0 te.1 - n)).size,.cells (Builtin.zeroCells te.2.zero.cells n++Builtin.zeroCells te.2.zero.cells (grownCap w n 0 te.1 - n)) te.1,.cells (Ji zc n)⟩) (by simp[cS.upd]) hge (.inr ⟨rfl,?_⟩)
 simp only[Array.size_append,size_zeroCells,hzs]
 have:grownCap w n 0 te.1*te.2.size=n*te.2.size+(grownCap w n 0 te.1 - n)*te.2.size:=by
  rw[<-Nat.add_mul];congr 1;omega
 omega
theorem dU.put (R:dU w0 ρ H w) {hh o:Nat} {cs uc c1:List GV} {l:Fq} {us:List Value} (hcs:H.cells hh=some cs) (hl:ρ hh=some l) (hus:mQ ρ uc us) (hone:∀x∈us,one x=true) (hput:Bw uc o cs=some c1) (hne:uc≠[]):
  ∃cur T',w.heap[l.b]? = some (.cells cur T' (0,0))∧l.off+o+us.length<=cur.size∧∃ρ',ρ.le ρ'∧dU w0 ρ' (H.set hh (.cells c1)) (w.setRow l.b (cur.toList.take (l.off+o)++us++cur.toList.drop (l.off+o+us.length)).toArray):=by
 obtain⟨cur,T',hb,hsz,hfit,hcell⟩:=R.cells hcs hl
 have hul:uc.length=us.length:=hus.len
 obtain⟨p1,p2,p3⟩:=Dn hput
 have p1:=p1 hne
 refine⟨cur,T',hb,by omega,_,R.set (fD.1 hcs) hl ?_ (fun k hk=>setRow_other w l.b k _ hk) ?_ (setRow_heap w l.b _ _ T' _ hb)⟩
 ·obtain⟨l',hl',hbase,_⟩:=R.live _ _ (fD.1 hcs)
  rw[hl]at hl';cases hl'
  exact⟨R.ext.os,R.ext.tape,R.ext.output,by simpa using R.ext.size,fun k hk hO=>by
   rw[setRow_other w l.b k _ (fun e=>by subst e;rcases hbase with hbase|hbase;exact absurd hbase (by omega);exact hO hbase)];exact R.ext.block k hk hO⟩
 ·refine⟨_,T',setRow_heap w l.b _ _ T' _ hb,?_,by omega,fun i x hx=> ?_⟩
  ·simp;omega
  ·rw[p3 i]at hx
   have hcl:cur.toList.length=cur.size:=by simp
   have key:(cur.toList.take (l.off+o)++us++cur.toList.drop (l.off+o+us.length)).toArray[l.off+i]? = if o<=i∧i<o+us.length then us[i - o]? else cur[l.off+i]?:=by
    rw[List.getElem?_toArray,List.append_assoc]
    by_cases hi:i<o
    ·rw[if_neg (by omega),List.getElem?_append_left (by simp;omega),List.getElem?_take,if_pos (by omega),Array.getElem?_toList]
    ·rw[List.getElem?_append_right (by simp;omega),List.length_take]
     have e1:min (l.off+o) cur.toList.length=l.off+o:=by omega
     rw[e1]
     by_cases hi2:i<o+us.length
     ·rw[if_pos (by omega),List.getElem?_append_left (by omega)]
      congr 1;omega
     ·rw[if_neg (by omega),List.getElem?_append_right (by omega),List.getElem?_drop,Array.getElem?_toList]
      congr 1;omega
   by_cases hi:o<=i∧i<o+uc.length
   ·rw[if_pos hi]at hx
    obtain⟨y,hy,hr⟩:=hus.get hx
    exact⟨y,by rw[key,if_pos (by omega)];exact hy,hr,hone y (List.mem_of_getElem? hy)⟩
   ·rw[if_neg hi]at hx
    obtain⟨y,hy,hr⟩:=hcell i x hx
    exact⟨y,by rw[key,if_neg (by omega)];exact hy,hr⟩
theorem PU (hG:dK P tb) {T T' ty:TypeId} (R:dU w0 ρ H w) (hv:Rl ρ v V) (hu:Rl ρ u U) (h:PS tb T v u H=some (g,H')):Gp P w0 ρ (Builtin.copy_ #[T,T'] ty #[V,U]) w g H':=by
 obtain⟨s,hs,h⟩:=aB.1 (show ob v.asS _=some (g,H')from h)
 obtain⟨r,hr,h⟩:=aB.1 h
 obtain⟨te,hte,h⟩:=aB.1 h
 obtain⟨hs1,h⟩:=bB.1 h
 obtain⟨hr1,h⟩:=bB.1 h
 obtain⟨hlen,h⟩:=bB.1 h
 obtain⟨cs,hcs,h⟩:=aB.1 h
 obtain⟨xs,hxs,h⟩:=aB.1 h
 obtain⟨ds,hds,h⟩:=aB.1 h
 have hs1:s.2.2.2=te.2.size:=Nat.eq_of_beq_eq_true hs1
 have hr1:r.2.2.2=te.2.size:=Nat.eq_of_beq_eq_true hr1
 have hlen:r.2.2.1=s.2.2.1:=Nat.eq_of_beq_eq_true hlen
 cases xs with
 |nil=>cases h
 | cons x0 xs0 =>
  obtain⟨c1,hput,h⟩:=aB.1 (show ob (Bw (x0::xs0) s.2.1 ds) _=some (g,H')from h)
  rw[rJ]at h
  cases h
  have hcont:nW H te.2.size u=some (r.2.2.1,x0::xs0):=by
   unfold nW
   rw[vF hr]
   have hb:Nat.beq te.2.size te.2.size=true:=by simp
   show ob (some r) (fun s=>bif Nat.beq s.2.2.2 te.2.size then _ else none)=_
   show(bif Nat.beq r.2.2.2 te.2.size then ob (H.cells r.1) (fun cs=>ob (Vi cs r.2.1 (Nat.mul r.2.2.1 te.2.size)) fun q=>some (r.2.2.1,q))else none)=_
   rw[hr1,hb,cond_true,hcs]
   show ob (Vi cs r.2.1 (Nat.mul r.2.2.1 te.2.size)) _=_
   rw[hxs];rfl
  obtain⟨ns,c2⟩:=wZ R hu hcont
  obtain⟨⟨d,hd,hde⟩,hE,htab⟩:=rR hG hte
  rw[vF hs]at hv
  obtain⟨l,cap,A,hl,rfl,hc,ha⟩:=hv.sl_inv
  have hne:x0::xs0≠[]:=by simp
  obtain⟨cur,T2,hb,hfit,ρ',hle,R'⟩:=R.put hds hl c2.rel c2.one hput hne
  have hnsl:=c2.len
  have hns0:ns.length≠0:=by have:=c2.rel.len;simp at this;omega
  have hA:A=⟨l.b,l.off+s.2.1,none⟩:=by
   rcases ha with ha|⟨e,_⟩
   ·exfalso
    have:s.2.2.1=0:=by omega
    rw[hlen,this]at hnsl;simp at hnsl;exact hns0 (by simp[hnsl])
   ·exact e
  subst hA
  have hund:=hd.und
  rw[hde]at hund
  have hst:=run_storeCells_at P l.b (l.off+s.2.1) T2 ns 0 cur w hb (by simpa using hfit) (fun x hx=>nQ (c2.one x hx))
  simp only[Nat.add_zero]at hst
  obtain⟨base,cap2,hV2,hcap2,hh2⟩:=c2.val
  subst hV2
  rcases hh2 with⟨_,h0,_⟩|⟨A2,rfl,hcell⟩
  ·exfalso;rw[h0]at hnsl;simp at hnsl;exact hns0 (by simp[hnsl])
  have hld:=run_firstCells_some (P:=P) w te.2.size r.2.2.1 A2 r.2.2.1 cap2 ns hnsl hcell
  have hru:=hd.run_und w
  rw[hde]at hru
  refine⟨_,_,ρ',?_,hle,R',.int _ _⟩
  have hmin:Nat.min r.2.2.1 s.2.2.1=r.2.2.1:=by rw[hlen];exact Nat.min_self _
  simp[Builtin.copy_,hru,Builtin.lenOf,hE.run_size w,hmin,hld,hst,goInt]
theorem SA (hG:dK P tb) {T T' ty:TypeId} (R:dU w0 ρ H w) (hv:Rl ρ v V) (hu:Rl ρ u U) (h:sT tb T T' v u H=some (g,H')):Gp P w0 ρ (Builtin.append_ #[T,T'] ty #[V,U]) w g H':=by
 unfold sT at h
 cases hTT:Nat.beq T T' with
 |false=>rw[hTT]at h;exact PN hG R hv hu h
 |true=>
 rw[hTT]at h
 have hTT:T=T':=Nat.eq_of_beq_eq_true hTT
 subst hTT
 rw[cond_true]at h
 obtain⟨te,hte,h⟩:=aB.1 h
 obtain⟨h0,h⟩:=kG.1 h
 obtain⟨zc,hz,h⟩:=aB.1 h
 obtain⟨hzl,h⟩:=bB.1 h
 obtain⟨p,hp,h⟩:=aB.1 h
 obtain⟨q,hq,h⟩:=aB.1 h
 obtain⟨⟨d,hd,hde⟩,hE,htab⟩:=rR hG hte
 obtain⟨dz,hdz,_,hC⟩:=qJ (ρ:=ρ) hG hz
 rw[htab]at hdz;cases hdz
 have hzl:zc.length=te.2.size:=Nat.eq_of_beq_eq_true hzl
 have hzs:te.2.zero.cells.size=te.2.size:=by have:=hC.r.len;simp at this;omega
 have h0:te.2.size≠0:=fun e=>by rw[e]at h0;cases h0
 obtain⟨ns1,c1⟩:=wZ R hv hp
 obtain⟨ns2,c2⟩:=wZ R hu hq
 have hund:=hd.und
 rw[hde]at hund
 have src:=c2.src (P:=P) (T:=T) hund
 obtain⟨base,cap,hV,hcap,hbase⟩:=c1.val
 cases hq1:q.1 with
 |zero=>
  rw[hq1]at h
  cases h
  rw[hq1]at src
  have hns:ns2=[]:=List.eq_nil_of_length_eq_zero (by have:=c2.len;rw[hq1]at this;simpa using this)
  subst hns
  refine⟨V,w,ρ,?_,cS.le_refl _,R,hv⟩
  have hru:=hd.run_und w
  rw[hde]at hru
  have hlen:=src.len w
  have hcl:=src.cells
  subst hV
  cases base with
  |none=>simp[Builtin.append_,hru,hE.run_size w,hlen,hcl,hcap]
  |some A=>simp[Builtin.append_,hru,hE.run_size w,hlen,hcl,hcap,storeCells]
 | succ m =>
  rw[hq1]at h
  simp only[rE]at h
  obtain⟨hbig,h⟩:=bB.1 h
  rw[Ux,NU,gY]at h
  cases h
  have hbig:(p.1+q.1)*(te.2.bytes+1)<16777216:=by rw[hq1];simpa [Nat.blt_eq]using hbig
  have hb1:(p.1+q.1)*te.2.bytes+(p.1+q.1)<16777216:=by rw[Nat.mul_add,Nat.mul_one]at hbig;exact hbig
  have hq1':Nat.add p.1 (m+1)=p.1+q.1:=by rw[hq1];rfl
  have hrell:mQ ρ (p.2++q.2) (ns1++ns2):=c1.rel.append c2.rel
  have hlen12:(p.2++q.2).length=(p.1+q.1)*te.2.size:=by
   rw[hrell.len,List.length_append,c1.len,c2.len,<-Nat.add_mul]
  have hone12:∀x∈ns1++ns2,one x=true:=fun x hx=>by
   rcases List.mem_append.1 hx with hx|hx
   ·exact c1.one x hx
   ·exact c2.one x hx
  by_cases hroom:p.1+q.1<=cap
  ·
   have hvs:∃s,v.asS=some s:=by
    cases hzz:v.isSnil with
    |true=>
     rw[qH hzz]at hv
     have:=hv.snil_inv
     rw[hV]at this
     injection this with _ _ e3
     omega
    |false=>
     unfold nW at hp
     rw[hzz]at hp
     obtain⟨s,hs,_⟩:=aB.1 (show ob v.asS _=some p from hp)
     exact⟨s,hs⟩
   obtain⟨s,hs⟩:=hvs
   obtain⟨hsz,cs,hcs,hbb,hp1⟩:=JJ hp hs
   rw[vF hs]at hv
   obtain⟨l,cap',A,hl,hV',hc,ha⟩:=hv.sl_inv
   rw[hV]at hV'
   injection hV' with e1 e2 e3
   subst e1 e3
   rcases ha with ha|⟨rfl,hbound⟩
   ·omega
   rw[hsz]at hbound
   have c1':=c1
   rw[hV]at c1'
   obtain⟨cur,T',hh,hcs2,hle,R'⟩:=LS R hcs hl c1' c2.rel c2.len c2.one hroom hbound
   have hr:=IN (P:=P) (ty:=ty) hd hde hE hh src hroom hcs2
   have hdel:JL H v=H.del s.1:=by unfold JL;rw[hs]
   rw[hdel,hV]
   refine⟨_,_,_,hr,hle,R',?_⟩
   rw[hq1']
   exact .sl (l:=⟨l.b,l.off+s.2.1,l.size,_,_⟩) (by show(if H.n=H.n then _ else _)=_;exact if_pos rfl) hroom (.inr ⟨rfl,by show l.off+s.2.1+0+cap*te.2.size<=l.size;omega⟩)
  ·
   have hR':dU w0 ρ (JL H v) w.drew:=by
    have:dU w0 ρ (JL H v) w:=by
     unfold JL
     cases v.asS with
     |none=>exact R
     |some s=>exact R.del s.1
    exact this.ext' ((Below.refl _ _).drew)
   have hr:=IL (P:=P) (ty:=ty) hd hde hE (base:=base) (by rw[<-hV];exact c1.old) src (by omega) (by omega) (by omega)
   have hge:=grownCap_ge w (p.1+q.1) cap te.1
   have hn1:(ns1++ns2).length=(p.1+q.1)*te.2.size:=by rw[<-hrell.len];exact hlen12
   obtain⟨ρ',hle,rfl,R'⟩:=hR'.alloc' (cs:=p.2++q.2) (a:=(ns1++ns2).toArray++Builtin.zeroCells te.2.zero.cells (grownCap w (p.1+q.1) cap te.1 - (p.1+q.1))) te.1 (by simp only[Array.size_append,List.size_toArray];omega) (fun i x hx=>by
    obtain⟨y,hy,hr⟩:=hrell.get hx
    exact⟨y,by rw[Array.getElem?_append_left (by simpa using aR hy)];simpa using hy,hr,hone12 y (List.mem_of_getElem? hy)⟩)
   rw[hV]
   refine⟨_,_,_,hr,hle,R',?_⟩
   rw[hq1']
   refine .sl (l:=⟨w.heap.size,0,((ns1++ns2).toArray++Builtin.zeroCells te.2.zero.cells (grownCap w (p.1+q.1) cap te.1 - (p.1+q.1))).size,.cells ((ns1++ns2).toArray++Builtin.zeroCells te.2.zero.cells (grownCap w (p.1+q.1) cap te.1 - (p.1+q.1))) te.1,.cells (p.2++q.2)⟩) (by simp[cS.upd]) hge (.inr ⟨rfl,?_⟩)
   simp only[Array.size_append,List.size_toArray,size_zeroCells,hzs,hn1]
   have:grownCap w (p.1+q.1) cap te.1*te.2.size=(p.1+q.1)*te.2.size+(grownCap w (p.1+q.1) cap te.1 - (p.1+q.1))*te.2.size:=by
    rw[<-Nat.add_mul];congr 1;omega
   omega
end
end
section
section
variable {P:Program} {tb:TB} {ρ:cS} {V U W X:Value} {v u t g:GV} {gs:rK} {w0:cM gs} {w:World} {H H':GH}
theorem IY {T:TypeId} (R:dU w0 ρ H w) (h:uN H=some (g,H')):Gp P w0 ρ (Instr.makeMap T none) w g H':=by
 unfold uN at h
 rw[gY]at h;cases h
 have e:CG w (w.alloc (.map #[] 0)):=(Below.refl _ _).alloc (Nat.le_refl _) _
 have hn:=R.new (o:= .mp []) (l:=⟨w.heap.size,0,0,.map #[] 0,.mp []⟩) (R.ext.trans e) (fun h o' l' hg hl=>by
  obtain⟨l,hl',_,ho⟩:=R.live h o' hg
  rw[hl]at hl';cases hl'
  exact⟨e.block _ ho.lt,Nat.ne_of_lt ho.lt⟩) (.inl R.ext.size) ⟨#[],0,heap_alloc_new w _,rfl,fun i x hx=>by simp at hx⟩ (heap_alloc_new w _)
 refine⟨_,_,_,?_,hn.1,hn.2,.map (l:=⟨w.heap.size,0,0,.map #[] 0,.mp []⟩) (by simp[cS.upd])⟩
 simp[Instr.makeMap]
theorem NY (s r:ByteArray):Jh (iO (aY s),(aY s).length) (iO (aY r),(aY r).length)=(s.toList==r.toList):=by
 rw[Lib.toList_data,Lib.toList_data]
 unfold Jh
 by_cases hl:(aY s).length=(aY r).length
 ·have hb:Nat.beq (aY r).length (aY r).length=true:=by simp
  rw[hl,hb,cond_true]
  by_cases he:iO (aY s)=iO (aY r)
  ·have:=Bu hl he
   unfold aY at this
   rw[he,this];simp
  ·rw[kD he]
   symm
   rw[beq_eq_false_iff_ne]
   intro hh;exact he (by unfold aY;rw[hh])
 ·rw[kD hl,cond_false]
  symm
  rw[beq_eq_false_iff_ne]
  intro hh;exact hl (by unfold aY;rw[hh])
theorem Kh {t:Ty} {a b:GV} {A B:Value} {c:Bool} (hk:El t a=true) (ha:Rl ρ a A) (hb:Rl ρ b B) (h:KX a b=some c):Instr.sameNow t.desc A B=some c:=by
 unfold KX at h
 unfold El at hk
 cases hi:a.asI with
 | some x =>
  rw[hi]at h hk
  obtain⟨y,hy,h⟩:=aB.1 (show ob b.asI _=some c from h)
  obtain⟨he,h⟩:=bB.1 h
  cases h
  rw[k_ hi]at ha
  rw[k_ hy]at hb
  rw[ha.int_inv,hb.int_inv]
  cases hd:Qo t.desc with
  |none=>simp only[hd]at hk;cases hk
  |some k=>
   rw[Bc hd]
   have:=Eb he
   simp only[Instr.sameNow,this,if_true,Ea]
   congr 1
 |none=>
  rw[hi]at h hk
  obtain⟨x,hx,h⟩:=aB.1 (show ob a.asStr _=some c from h)
  obtain⟨y,hy,h⟩:=aB.1 h
  cases h
  rw[hx]at hk
  rw[lL hx]at ha
  rw[lL hy]at hb
  obtain⟨s,rfl,e1,e2⟩:=ha.str_inv
  obtain⟨r,rfl,e3,e4⟩:=hb.str_inv
  rw[uL hk]
  show some (s==r)=_
  rw[beq_toListBytes,<-NY]
  cases x;cases y;simp only at e1 e2 e3 e4;rw[e1,e2,e3,e4]
theorem Er {t:Ty} {k:GV} {K:Value} (hk:El t k=true) (hK:Rl ρ k K):∀{es:List (GV×GV)} {en:List MapEntry} {r:Option GV} (i:Nat),en.length=es.length->(∀(i:Nat) e,es[i]? = some e->∃m,en[i]? = some m∧Rl ρ e.1 m.key∧Rl ρ e.2 m.val)->Ik k es=some r->
  (r=none∧Instr.findNow t.desc K en i=some none)∨∃g j x,r=some g∧Rl ρ g x∧Instr.findNow t.desc K en i=some (some (j,x))
 | [],en,r,i,hl,_,h=>by
  cases h
  have:en=[]:=List.eq_nil_of_length_eq_zero (by simpa using hl)
  subst this;exact .inl ⟨rfl,rfl⟩
 | e :: es, en, r, i, hl, hr, h => by
  obtain⟨b,hb,h⟩:=aB.1 (show ob (KX k e.1) (fun b=>bif b then some (some e.2)else Ik k es)=some r from h)
  cases en with
  |nil=>simp at hl
  | cons m en =>
   obtain⟨m',hm,h1,h2⟩:=hr 0 e rfl
   simp at hm;subst hm
   have hs:=Kh hk hK h1 hb
   cases b with
   |true=>
    cases h
    exact .inr ⟨e.2,i,m.val,rfl,h2,by simp[Instr.findNow,hs]⟩
   |false=>
    have:=Er (r:=r) hk hK (i+1) (by simpa using hl) (fun i e' he=>by have:=hr (i+1) e' (by simpa using he);simpa using this) (show Ik k es=some r from h)
    simpa [Instr.findNow,hs]using this
theorem Ig (hG:dK P tb) {T:TypeId} {t:Ty×Ty} (h:OE tb T=some t):∃d k e,nI P T d∧d.desc = .map k e∧nI P k t.1∧nI P e t.2:=by
 obtain⟨d,hd,h⟩:=aB.1 (show ob (tb T) _=some t from h)
 obtain⟨kv,hkv,h⟩:=aB.1 h
 obtain⟨tk,htk,h⟩:=aB.1 h
 obtain⟨tv,htv,h⟩:=aB.1 h
 cases h
 exact⟨d,kv.1,kv.2,hG.tab hd,UV hkv,hG.tab htk,hG.tab htv⟩
theorem BI {K:TypeId} {t:Ty} {b:Bool} (hT:nI P K t) (hk:El t u=true) (hu:Rl ρ u U) (w:World):(Instr.checkKey b 10000 K U).run P w = .ok () w:=by
 have hund:=hT.run_und w
 unfold El at hk
 have key:∀n:Nat,(Instr.checkKey b (n+1) K U).run P w = .ok () w:=fun n=>by
  unfold Instr.checkKey
  cases hi:u.asI with
  |some x=>
   rw[hi]at hk
   rw[k_ hi]at hu
   rw[hu.int_inv]
   cases hd:Qo t.desc with
   |none=>simp only[hd]at hk;cases hk
   |some k=>rw[Bc hd]at hund;simp[hund]
  | none =>
   rw[hi]at hk
   cases hs:u.asStr with
   |none=>simp only[hs]at hk;cases hk
   |some x=>
    simp only[hs]at hk
    rw[lL hs]at hu
    obtain⟨s,rfl,_,_⟩:=hu.str_inv
    rw[uL hk]at hund
    simp[hund]
 exact key 9999
theorem dU.map (R:dU w0 ρ H w) {h:Nat} {es:List (GV×GV)} (hc:H.get h=some (.mp es)) {l:Fq} (hl:ρ h=some l):rB ρ w l (.mp es)∧w0.mine l.b:=by
 obtain⟨l',hl',hb,ho⟩:=R.live h _ hc
 rw[hl]at hl';cases hl';exact⟨ho,hb⟩
theorem PV (hG:dK P tb) {T:TypeId} {ok:Bool} (R:dU w0 ρ H w) (hv:Rl ρ v V) (hu:Rl ρ u U) (h:IX tb T ok v u H=some g):∃x,Rl ρ g x∧(Instr.lookup T V U ok).run P w = .ok x w:=by
 obtain⟨m,hm,h⟩:=aB.1 (show ob v.asM _=some g from h)
 obtain⟨o,ho,h⟩:=aB.1 h
 obtain⟨es,hes,h⟩:=aB.1 h
 obtain⟨t,ht,h⟩:=aB.1 h
 obtain⟨hk,h⟩:=bB.1 h
 obtain⟨r,hr,h⟩:=aB.1 h
 obtain⟨z,hz,h⟩:=aB.1 h
 rw[asM_eq hm]at hv
 obtain⟨l,hl,rfl⟩:=hv.map_inv
 rw[GO.asM_eq hes]at ho
 obtain⟨⟨en,cl,hb,hlen,hent⟩,_⟩:=R.map ho hl
 obtain⟨d,k,e,hd,hde,hK,hE⟩:=Ig hG ht
 have hund:=hd.run_und w
 rw[hde]at hund
 have hck:=BI (P:=P) (b:=en.isEmpty) hK hk hu w
 have hget:(getObj l.b).run P w = .ok (.map en cl) w:=by simp[getObj,Sem.run,hb]
 have hkund:=hK.run_und w
 have hf:=Er hk hu (en:=en.toList) (r:=r) 0 (by simpa using hlen) (fun i e' he=>by
  obtain⟨m',h1,h2⟩:=hent i e' he
  exact⟨m',by rw[Array.getElem?_toList];exact h1,h2⟩) hr
 have hz':=Kc (ρ:=ρ) hz
 rcases hf with⟨rfl,hf⟩|⟨g',j,x,rfl,hx,hf⟩
 ·cases ok with
  |false=>cases h;exact⟨_,hz',by simp[Instr.lookup,hund,hget,hck,Instr.findKey,hkund,hf,hE.run_zero w]⟩
  |true=>cases h;exact⟨.tuple #[t.2.zero,.bool false],Dg (.cons hz' (.cons (.bool _) .nil)),by simp[Instr.lookup,hund,hget,hck,Instr.findKey,hkund,hf,hE.run_zero w]⟩
 ·cases ok with
  |false=>cases h;exact⟨x,hx,by simp[Instr.lookup,hund,hget,hck,Instr.findKey,hkund,hf]⟩
  |true=>cases h;exact⟨.tuple #[x,.bool true],Dg (.cons hx (.cons (.bool _) .nil)),by simp[Instr.lookup,hund,hget,hck,Instr.findKey,hkund,hf]⟩
theorem ML (hG:dK P tb) {T:TypeId} (R:dU w0 ρ H w) (hv:Rl ρ v V) (hu:Rl ρ u U) (hx:Rl ρ t X) (h:EO tb T v u t H=some (g,H')):g = .un∧∃w' ρ',(Instr.mapUpdate T V U X).run P w = .ok () w'∧ρ.le ρ'∧dU w0 ρ' H' w':=by
 obtain⟨m,hm,h⟩:=aB.1 (show ob v.asM _=some (g,H')from h)
 obtain⟨o,ho,h⟩:=aB.1 h
 obtain⟨es,hes,h⟩:=aB.1 h
 obtain⟨ty,ht,h⟩:=aB.1 h
 obtain⟨hk,h⟩:=bB.1 h
 obtain⟨r,hr,h⟩:=aB.1 h
 rw[asM_eq hm]at hv
 obtain⟨l,hl,rfl⟩:=hv.map_inv
 rw[GO.asM_eq hes]at ho
 obtain⟨⟨en,cl,hb,hlen,hent⟩,hbase⟩:=R.map ho hl
 obtain⟨d,k,e,hd,hde,hK,hE⟩:=Ig hG ht
 have hund:=hd.run_und w
 rw[hde]at hund
 have hck:=BI (P:=P) (b:=false) hK hk hu w
 have hget:(getObj l.b).run P w = .ok (.map en cl) w:=by simp[getObj,Sem.run,hb]
 have hkund:=hK.run_und w
 have hf:=Er hk hu (en:=en.toList) (r:=r) 0 (by simpa using hlen) (fun i e' he=>by
  obtain⟨m',h1,h2⟩:=hent i e' he
  exact⟨m',by rw[Array.getElem?_toList];exact h1,h2⟩) hr
 rcases hf with⟨rfl,hf⟩|⟨g',j,x,rfl,hx',hf⟩
 ·simp only[rJ]at h
  cases h
  refine⟨rfl,{w with heap:=w.heap.setIfInBounds l.b (.map (en.push {key:=U,val:=X,born:=cl}) (cl+1))},_,?_,R.set (X:= .map (en.push {key:=U,val:=X,born:=cl}) (cl+1)) ho hl ?_ ?_ ?_ ?_⟩
  ·simp[Instr.mapUpdate,hund,hget,hck,Instr.findKey,hkund,hf,setObj,Sem.run,hb]
  ·exact⟨R.ext.os,R.ext.tape,R.ext.output,by simpa using R.ext.size,fun i hi hO=>by
    show(w.heap.setIfInBounds l.b _)[i]? = _
    rw[Array.getElem?_setIfInBounds_ne (fun e=>by subst e;rcases hbase with hbase|hbase;exact absurd hbase (by omega);exact hO hbase)];exact R.ext.block i hi hO⟩
  ·intro i hi
   show(w.heap.setIfInBounds l.b _)[i]? = _
   rw[Array.getElem?_setIfInBounds_ne (Ne.symm hi)]
  ·have hlt:l.b<w.heap.size:=(Array.getElem?_eq_some_iff.1 hb).1
   refine⟨en.push {key:=U,val:=X,born:=cl},cl+1,by show(w.heap.setIfInBounds l.b _)[l.b]? = _;rw[Array.getElem?_setIfInBounds_self_of_lt hlt],by simp[hlen],fun i e' he=> ?_⟩
   by_cases hi:i<es.length
   ·rw[List.getElem?_append_left hi]at he
    obtain⟨m',h1,h2⟩:=hent i e' he
    exact⟨m',by rw[Array.getElem?_push,if_neg (by omega)];exact h1,h2⟩
   ·rw[List.getElem?_append_right (by omega)]at he
    have:i=es.length:=by
     have:=aR he
     simp at this;omega
    subst this
    simp at he;subst he
    exact⟨⟨U,X,cl⟩,by rw[Array.getElem?_push,if_pos (by omega)],hu,hx⟩
  ·have hlt:l.b<w.heap.size:=(Array.getElem?_eq_some_iff.1 hb).1
   show(w.heap.setIfInBounds l.b _)[l.b]? = _
   rw[Array.getElem?_setIfInBounds_self_of_lt hlt]
 ·cases h
end
end
section
section
variable {P:Program} {tb:TB} {ρ:cS} {gs:rK} {w0:cM gs} {w:World} {H H':GH} {n:Nat} {σ:GF} {a:Act} {R:Type}
def kM (P:Program) {gs:rK} (w0:cM gs) (ρ:cS) (f:Nat) (vs:List Value) (w:World) (g:GV) (H':GH):Prop:=
 (∃v w' ρ',(callFunc f vs.toArray).run P w = .ok (.value v) w'∧ρ.le ρ'∧dU w0 ρ' H' w'∧Rl ρ' g v)∨
 ((callFunc f vs.toArray).run P w = .ok (.enter f vs.toArray) w∧Calls P f vs.toArray w fun e w'=>∃v ρ',e = .returned v∧ρ.le ρ'∧dU w0 ρ' H' w'∧Rl ρ' g v)
def nD (P:Program) {gs:rK} (w0:cM gs) (ih:CH):Prop:=∀f us H g H',ih f us H=some (g,H')->∀ρ w vs,dU w0 ρ H w->mQ ρ us vs->kM P w0 ρ f vs w g H'
def vW (P:Program) {gs:rK} (w0:cM gs) (ρ:cS) (σ:GF) (a:Act) (w:World) (o:Oper) (g:GV) (H H':GH):Prop:=
 (cZ o.op=false∧kE o.op=false∧GT o.op=false∧H'=H∧∃v,Rl ρ g v∧∀w,(execOp a.eval o).run P w = .ok (.value v) w)∨
 (cZ o.op=false∧kE o.op=true∧H'=H∧∃v h l,RH σ o.op=some h∧ρ h=some l∧(∃x,H.get h=some x)∧Rl ρ g v∧∀w',w'.heap[l.b]? = w.heap[l.b]? -> (execOp a.eval o).run P w' = .ok (.value v) w')∨
 (cZ o.op=false∧GT o.op=true∧H'=H∧∃v,Rl ρ g v∧(execOp a.eval o).run P w = .ok (.value v) w)∨
 (cZ o.op=true∧∀K:Act->World->Prop,(∀ρ' w' v,ρ.le ρ'->dU w0 ρ' H' w'->Rl ρ' g v->K (a.put o.dst v) w')->o.wp P a w K Jt)
theorem vW.comp {o:Oper} {g:GV} {s:Sem Value} (hl:cZ o.op=false) (h:wP P ρ s g) (he:∀w v,s.run P w = .ok v w->(execOp a.eval o).run P w = .ok (.value v) w) (h1:kE o.op=false:=by rfl) (h2:GT o.op=false:=by rfl):vW P w0 ρ σ a w o g H H:=
 let ⟨v,hv,hr⟩:=h;.inl ⟨hl,h1,h2,rfl,v,hv,fun w=>he w v (hr w)⟩
theorem vW.read {o:Oper} {g:GV} {s:Sem Value} (hl:cZ o.op=false) (hr:GT o.op=true) (h:∃x,Rl ρ g x∧s.run P w = .ok x w) (he:∀v,s.run P w = .ok v w->(execOp a.eval o).run P w = .ok (.value v) w):vW P w0 ρ σ a w o g H H:=
 let ⟨v,hv,hr'⟩:=h;.inr (.inr (.inl ⟨hl,hr,rfl,v,hv,he v hr'⟩))
theorem vW.does {o:Oper} {g:GV} {s:Sem Value} (hl:cZ o.op=true) (h:Gp P w0 ρ s w g H') (he:∀v w',s.run P w = .ok v w'->(execOp a.eval o).run P w = .ok (.value v) w'):vW P w0 ρ σ a w o g H H':=by
 obtain⟨v,w',ρ',hr,hle,R',hv⟩:=h
 refine .inr (.inr (.inr ⟨hl,fun K hK=> ?_⟩))
 simp only[Oper.wp,he v w' hr,Oper.upon]
 exact hK ρ' w' v hle R' hv
theorem vW.act {o:Oper} {g:GV} {s:Sem Unit} (hl:cZ o.op=true) (h:g = .un∧∃w' ρ',s.run P w = .ok () w'∧ρ.le ρ'∧dU w0 ρ' H' w') (he:∀w',s.run P w = .ok () w'->(execOp a.eval o).run P w = .ok .skip w'):vW P w0 ρ σ a w o g H H':=by
 obtain⟨rfl,w',ρ',hr,hle,R'⟩:=h
 refine .inr (.inr (.inr ⟨hl,fun K hK=> ?_⟩))
 simp only[Oper.wp,he w' hr,Oper.upon]
 exact hK ρ' w' undef hle R' .un
theorem Dm (F:iA ρ n σ a) {o:Option Operand} {g:Option GV} (h:Ch σ o=some g):Vl ρ g (o.map a.eval):=by
 cases o with
 |none=>cases h;exact .inl ⟨rfl,rfl⟩
 |some x=>
  obtain⟨v,hv,h⟩:=aB.1 (show ob (gN σ x) _=some g from h)
  cases h;exact .inr ⟨v,_,rfl,rfl,bS F hv⟩
theorem Aw {α:Type} {xs:Array α} {x y:α} (h:xs.toList=[x,y]):xs = #[x,y]:=by
 cases xs;simp at h;rw[h]
theorem Dw {α:Type} {xs:Array α} {x:α} (h:xs.toList=[x]):xs = #[x]:=by
 cases xs;simp at h;rw[h]
theorem xE {f:Operand->KT R} {k:GV->GH->Option R} {r:R}:∀{xs:List Operand},Ek xs f σ H k=some r->∃x,xs=[x]∧f x σ H k=some r
 | [],h=>by cases h
 | [x],h=>⟨x,rfl,h⟩
 |_::_::_,h=>by cases h
theorem rT {f:Operand->Operand->KT R} {k:GV->GH->Option R} {r:R}:∀{xs:List Operand},yW xs f σ H k=some r->∃x y,xs=[x,y]∧f x y σ H k=some r
 | [],h=>by cases h
 | [_],h=>by cases h
 | [x,y],h=>⟨x,y,rfl,h⟩
 |_::_::_::_,h=>by cases h
theorem jM {o:OR} {k:GV->GH->Option R} {r:R} (h:aL o k=some r):∃g H',o=some (g,H')∧k g H'=some r:=by
 obtain⟨⟨g,H'⟩,h1,h2⟩:=aB.1 (show ob o _=some r from h)
 exact⟨g,H',h1,h2⟩
theorem RF (hG:dK P tb) (F:iA ρ n σ a) (Rr:dU w0 ρ H w) {b:Builtin} {xs:Array Operand} {ts:Array TypeId} {k:GV->GH->Option R} {r:R} {d:Option Tmp} {ty:TypeId} {pos:String} {aft:Array Edge} {gd:Option (Nat×Bool)} (hlen:ts.size=xs.size)
  (h:JW tb xs ts b σ H k=some r):∃g H',k g H'=some r∧vW P w0 ρ σ a w ⟨d,.call ⟨.builtin b,xs,ts⟩,ty,pos,aft,gd⟩ g H H':=by
 cases b with
 | len =>
  obtain⟨x,hx,h⟩:=xE (show Ek xs.toList (Ml tb ts.toList) σ H k=some r from h)
  obtain⟨T,hT,h⟩:=aB.1 (show ob (BV ts.toList 0) _=some r from h)
  obtain⟨v,hv,h⟩:=aB.1 h
  obtain⟨g,hg,hk⟩:=aB.1 h
  have ex:=Dw hx
  subst ex
  have et:ts = #[T]:=by
   rw[oS]at hT
   obtain⟨l⟩:=ts
   match l,hlen with
   | [t],_=>simp at hT;subst hT;rfl
  subst et
  exact⟨g,H,hk,.comp rfl (Lz hG (ty:=ty) (bS F hv) hg) (fun w v hr=>by simp[execOp,resolve,invoke,builtin,hr])⟩
 | max =>
  obtain⟨x,y,hx,h⟩:=rT (show yW xs.toList (fun x y=>k2 x y PX) σ H k=some r from h)
  obtain⟨v,hv,h⟩:=aB.1 (show ob (gN σ x) _=some r from h)
  obtain⟨u,hu,h⟩:=aB.1 h
  obtain⟨g,hg,hk⟩:=aB.1 h
  have ex:=Aw hx
  subst ex
  obtain⟨t1,t2,et⟩:∃t1 t2,ts = #[t1,t2]:=by
   obtain⟨l⟩:=ts
   match l,hlen with
   | [t,t'],_=>exact⟨t,t',rfl⟩
  subst et
  exact⟨g,H,hk,.comp rfl (LA (t1:=t1) (t2:=t2) (ty:=ty) (bS F hv) (bS F hu) hg) (fun w v hr=>by simp[execOp,resolve,invoke,builtin,hr])⟩
 | min =>
  obtain⟨x,y,hx,h⟩:=rT (show yW xs.toList (fun x y=>k2 x y SE) σ H k=some r from h)
  obtain⟨v,hv,h⟩:=aB.1 (show ob (gN σ x) _=some r from h)
  obtain⟨u,hu,h⟩:=aB.1 h
  obtain⟨g,hg,hk⟩:=aB.1 h
  have ex:=Aw hx
  subst ex
  obtain⟨t1,t2,et⟩:∃t1 t2,ts = #[t1,t2]:=by
   obtain⟨l⟩:=ts
   match l,hlen with
   | [t,t'],_=>exact⟨t,t',rfl⟩
  subst et
  exact⟨g,H,hk,.comp rfl (LB (t1:=t1) (t2:=t2) (ty:=ty) (bS F hv) (bS F hu) hg) (fun w v hr=>by simp[execOp,resolve,invoke,builtin,hr])⟩
 | append =>
  obtain⟨x,y,hx,h⟩:=rT (show yW xs.toList (Oo tb ts.toList) σ H k=some r from h)
  obtain⟨T,hT,h⟩:=aB.1 (show ob (BV ts.toList 0) _=some r from h)
  obtain⟨T',hT',h⟩:=aB.1 h
  obtain⟨v,hv,h⟩:=aB.1 h
  obtain⟨u,hu,h⟩:=aB.1 h
  obtain⟨g,H',hg,hk⟩:=jM h
  have ex:=Aw hx
  subst ex
  have et:ts = #[T,T']:=by
   rw[oS]at hT hT'
   obtain⟨l⟩:=ts
   match l,hlen with
   | [t,t'],_=>simp at hT hT';subst hT hT';rfl
  subst et
  exact⟨g,H',hk,.does rfl (SA hG (ty:=ty) Rr (bS F hv) (bS F hu) hg) (fun v w' hr=>by simp[execOp,resolve,invoke,builtin,hr])⟩
 | copy =>
  obtain⟨x,y,hx,h⟩:=rT (show yW xs.toList (If tb ts.toList) σ H k=some r from h)
  obtain⟨T,hT,h⟩:=aB.1 (show ob (BV ts.toList 0) _=some r from h)
  obtain⟨v,hv,h⟩:=aB.1 h
  obtain⟨u,hu,h⟩:=aB.1 h
  obtain⟨g,H',hg,hk⟩:=jM h
  have ex:=Aw hx
  subst ex
  obtain⟨T',et⟩:∃T',ts = #[T,T']:=by
   rw[oS]at hT
   obtain⟨l⟩:=ts
   match l,hlen with
   | [t,t'],_=>simp at hT;subst hT;exact⟨t',rfl⟩
  subst et
  exact⟨g,H',hk,.does rfl (PU hG (T':=T') (ty:=ty) Rr (bS F hv) (bS F hu) hg) (fun v w' hr=>by simp[execOp,resolve,invoke,builtin,hr])⟩
 | cap =>
  obtain⟨x,hx,h⟩:=xE (show Ek xs.toList (Mk tb ts.toList) σ H k=some r from h)
  obtain⟨T,hT,h⟩:=aB.1 (show ob (BV ts.toList 0) _=some r from h)
  obtain⟨v,hv,h⟩:=aB.1 h
  obtain⟨g,hg,hk⟩:=aB.1 h
  have ex:=Dw hx
  subst ex
  have et:ts = #[T]:=by
   rw[oS]at hT
   obtain⟨l⟩:=ts
   match l,hlen with
   | [t],_=>simp at hT;subst hT;rfl
  subst et
  exact⟨g,H,hk,.comp rfl (Lv hG (ty:=ty) (bS F hv) hg) (fun w v hr=>by simp[execOp,resolve,invoke,builtin,hr])⟩
 |_=>cases h
theorem Mj {ih:CH} (hih:nD P w0 ih) (F:iA ρ n σ a) (Rr:dU w0 ρ H w) {f:Operand} {xs:Array Operand} {ts:Array TypeId} {k:GV->GH->Option R} {r:R} {d:Option Tmp} {ty:TypeId} {pos:String} {aft:Array Edge} {gd:Option (Nat×Bool)}
  (h:Oq ih xs f σ H k=some r):∃g H',k g H'=some r∧vW P w0 ρ σ a w ⟨d,.call ⟨.value f,xs,ts⟩,ty,pos,aft,gd⟩ g H H':=by
 obtain⟨v,hv,h⟩:=aB.1 (show ob (gN σ f) _=some r from h)
 obtain⟨p,hp,h⟩:=aB.1 h
 obtain⟨us,hus,h⟩:=aB.1 h
 obtain⟨g,H',hc,h⟩:=jM h
 refine⟨g,H',h,.inr (.inr (.inr ⟨rfl,fun K hK=> ?_⟩))⟩
 have hf:=bS F hv
 rw[Nz hp]at hf
 obtain⟨fs,cs,ef,hfs,hcs⟩:=hf.fn_inv
 have harg:=Ad F hus
 have hall:=(hfs.append harg).append hcs
 have hrun:∀nx w',(callFunc p.1 (fs++xs.toList.map a.eval++cs).toArray).run P w = .ok nx w'->(execOp a.eval ⟨d,.call ⟨.value f,xs,ts⟩,ty,pos,aft,gd⟩).run P w = .ok nx w':=fun nx w' hr=>by
  have e1:(fs++xs.toList.map a.eval++cs).toArray=fs.toArray++(xs.map a.eval++cs.toArray):=by
   apply Array.toList_inj.1;simp
  rw[e1]at hr
  simp[execOp,resolve,ef,Deferred.ofValue,invoke,hr]
 rcases hih _ _ _ _ _ hc ρ w _ Rr hall with⟨v',w',ρ',hr,hle,R',hv'⟩|⟨hr,hcalls⟩
 ·simp only[Oper.wp,hrun _ _ hr,Oper.upon]
  exact hK ρ' w' v' hle R' hv'
 ·simp only[Oper.wp,hrun _ _ hr,Oper.upon]
  refine hcalls.mono ?_
  rintro e w' ⟨v',ρ',rfl,hle,R',hv'⟩
  exact hK ρ' w' v' hle R' hv'
def Ev:Op->Bool
 | .call c=>Nat.beq c.argTypes.size c.args.size
 |_=>true
theorem JQ (hG:dK P tb) {ih:CH} (hih:nD P w0 ih) (F:iA ρ n σ a) (Rr:dU w0 ρ H w) {o:Oper} {k:GV->GH->Option R} {r:R} (hoa:Ev o.op=true∨∃c f,o.op = .call c∧c.callee = .value f) (h:Hu tb ih o.op σ H k=some r):
  ∃g H',k g H'=some r∧vW P w0 ρ σ a w o g H H':=by
 obtain⟨d,op,ty,pos,aft,gd⟩:=o
 cases op with
 |move x=>
  obtain⟨v,hv,h⟩:=aB.1 (show ob (gN σ x) _=some r from h)
  exact⟨v,H,h,.inl ⟨rfl,rfl,rfl,rfl,_,bS F hv,fun w=>by simp[execOp]⟩⟩
 |assign x=>
  obtain⟨v,hv,h⟩:=aB.1 (show ob (gN σ x) _=some r from h)
  exact⟨v,H,h,.inl ⟨rfl,rfl,rfl,rfl,_,bS F hv,fun w=>by simp[execOp]⟩⟩
 |pick c x y=>
  obtain⟨v,hv,h⟩:=aB.1 (show ob (gN σ c) _=some r from h)
  obtain⟨u,hu,h⟩:=aB.1 h
  obtain⟨t,ht,h⟩:=aB.1 h
  obtain⟨g,hg,h⟩:=aB.1 h
  obtain⟨b,hb,hg⟩:=aB.1 (show ob v.asB _=some g from hg)
  have hc:=bS F hv
  rw[wY hb]at hc
  cases b with
  |true=>cases hg;exact⟨_,H,h,.inl ⟨rfl,rfl,rfl,rfl,_,bS F hu,fun w=>by simp[execOp,hc.bool_inv,asBool]⟩⟩
  |false=>cases hg;exact⟨_,H,h,.inl ⟨rfl,rfl,rfl,rfl,_,bS F ht,fun w=>by simp[execOp,hc.bool_inv,asBool]⟩⟩
 |alloc T=>
  obtain⟨g,H',hg,h⟩:=jM (show aL (bY tb T H) k=some r from h)
  exact⟨g,H',h,.does rfl (CC hG Rr hg) (fun v w' hr=>by simp[execOp,hr])⟩
 |box T x=>
  obtain⟨v,hv,h⟩:=aB.1 (show ob (gN σ x) _=some r from h)
  obtain⟨g,H',hg,h⟩:=jM h
  exact⟨g,H',h,.does rfl (SB (T:=T) Rr (bS F hv) hg) (fun v w' hr=>by simp[execOp,hr])⟩
 | build T ps =>
  obtain⟨vs,hvs,h⟩:=aB.1 (show ob (oQ σ ps.toList) _=some r from h)
  obtain⟨g,hg,h⟩:=aB.1 h
  exact⟨g,H,h,.comp rfl (Gg hG (wC F hvs) hg) (fun w v hr=>by
   have e:(ps.toList.map fun p=>(p.1,a.eval p.2)).toArray=ps.map fun p=>(p.1,a.eval p.2):=by apply Array.toList_inj.1;simp
   rw[e]at hr
   simp[execOp,hr])⟩
 | buildSlice T m ps =>
  obtain⟨vs,hvs,h⟩:=aB.1 (show ob (oQ σ ps.toList) _=some r from h)
  obtain⟨g,H',hg,h⟩:=jM h
  exact⟨g,H',h,.does rfl (Kq hG Rr (wC F hvs) hg) (fun v w' hr=>by
   have e:(ps.toList.map fun p=>(p.1,a.eval p.2)).toArray=ps.map fun p=>(p.1,a.eval p.2):=by apply Array.toList_inj.1;simp
   rw[e]at hr
   simp[execOp,hr])⟩
 |load T x=>
  obtain⟨v,hv,h⟩:=aB.1 (show ob (gN σ x) _=some r from h)
  obtain⟨g,hg,h⟩:=aB.1 h
  obtain⟨x',p,l,he,hl,hgt,hx',hr⟩:=EM (P:=P) hG Rr (bS F hv) hg
  exact⟨g,H,h,.inr (.inl ⟨rfl,rfl,rfl,x',p.1,l,by show ob (gN σ x) _=_;rw[hv,he];rfl,hl,hgt,hx',fun w' hw'=>by have:=hr w' hw';simp[execOp,this]⟩)⟩
 |store T x y=>
  obtain⟨v,hv,h⟩:=aB.1 (show ob (gN σ x) _=some r from h)
  obtain⟨u,hu,h⟩:=aB.1 h
  obtain⟨g,H',hg,h⟩:=jM h
  exact⟨g,H',h,.act rfl (CE hG Rr (bS F hv) (bS F hu) hg) (fun w' hr=>by simp[execOp,hr])⟩
 |nilCheck x=>
  obtain⟨v,hv,h⟩:=aB.1 (show ob (gN σ x) _=some r from h)
  obtain⟨g,hg,hk⟩:=aB.1 h
  obtain⟨rfl,hr⟩:=Ir (P:=P) (bS F hv) hg
  exact⟨_,H,hk,.inl ⟨rfl,rfl,rfl,rfl,_,bS F hv,fun w=>hr _ x a.eval rfl rfl w⟩⟩
 | binOp op T x y T' =>
  obtain⟨v,hv,h⟩:=aB.1 (show ob (gN σ x) _=some r from h)
  obtain⟨u,hu,h⟩:=aB.1 h
  obtain⟨g,hg,h⟩:=aB.1 h
  exact⟨g,H,h,.comp rfl (Lu hG x y (bS F hv) (bS F hu) hg) (fun w v hr=>by
   simp only[execOp]
   simp at hr ⊢
   cases hq:Sem.run P (eqGuard op T x y (a.eval x) (a.eval y)) w with
   |ok u w1=>rw[hq]at hr;simp at hr;simp[hr]
   |halt h1 w1=>rw[hq]at hr;cases hr)⟩
 |unOp op T x=>
  obtain⟨v,hv,h⟩:=aB.1 (show ob (gN σ x) _=some r from h)
  obtain⟨g,hg,h⟩:=aB.1 h
  exact⟨g,H,h,.comp rfl (PZ (bS F hv) hg) (fun w v hr=>by simp[execOp,hr])⟩
 |convert S D x=>
  obtain⟨v,hv,h⟩:=aB.1 (show ob (gN σ x) _=some r from h)
  obtain⟨g,hg,h⟩:=aB.1 h
  exact⟨g,H,h,.comp rfl (IV hG (bS F hv) hg) (fun w v hr=>by simp[execOp,hr])⟩
 | makeFunc fn first caps =>
  cases fn with
  |func f=>
   obtain⟨us,hus,h⟩:=aB.1 (show ob (AX σ first.toList) _=some r from h)
   obtain⟨vs,hvs,h⟩:=aB.1 h
   refine⟨_,H,h,.inl ⟨rfl,rfl,rfl,rfl,_,Jz (Ad F hus) (Ad F hvs),fun w=> ?_⟩⟩
   have e1:(first.toList.map a.eval).toArray=first.map a.eval:=by apply Array.toList_inj.1;simp
   have e2:(caps.toList.map a.eval).toArray=caps.map a.eval:=by apply Array.toList_inj.1;simp
   rw[e1,e2]
   simp[execOp,Instr.makeFunc]
  |_=>cases h
 | makeMap T q =>
  cases q with
  |none=>
   obtain⟨g,H',hg,h⟩:=jM (show aL (uN H) k=some r from h)
   exact⟨g,H',h,.does rfl (IY (T:=T) Rr hg) (fun v w' hr=>by simp[execOp,hr])⟩
  |some x=>cases h
 |makeSlice T x y=>
  obtain⟨v,hv,h⟩:=aB.1 (show ob (gN σ x) _=some r from h)
  obtain⟨u,hu,h⟩:=aB.1 h
  obtain⟨g,H',hg,h⟩:=jM h
  exact⟨g,H',h,.does rfl (PW hG Rr (bS F hv) (bS F hu) hg) (fun v w' hr=>by simp[execOp,hr])⟩
 | slice T x lo hi mx =>
  cases mx with
  |none=>
   obtain⟨v,hv,h⟩:=aB.1 (show ob (gN σ x) _=some r from h)
   obtain⟨l,hl,h⟩:=aB.1 h
   obtain⟨e,he,h⟩:=aB.1 h
   obtain⟨g,hg,h⟩:=aB.1 h
   exact⟨g,H,h,.comp rfl (Gj hG (.inl ⟨_,_,Rr⟩) (bS F hv) (Dm F hl) (Dm F he) hg) (fun w v hr=>by simp[execOp,hr])⟩
  |some y=>cases h
 |fieldAddr T x f=>
  obtain⟨v,hv,h⟩:=aB.1 (show ob (gN σ x) _=some r from h)
  obtain⟨g,hg,h⟩:=aB.1 h
  exact⟨g,H,h,.comp rfl (Gh hG (bS F hv) hg) (fun w v hr=>by simp[execOp,hr])⟩
 |field T x f=>
  obtain⟨v,hv,h⟩:=aB.1 (show ob (gN σ x) _=some r from h)
  obtain⟨g,hg,h⟩:=aB.1 h
  exact⟨g,H,h,.comp rfl (IZ hG (bS F hv) hg) (fun w v hr=>by simp[execOp,hr])⟩
 |indexAddr T x y=>
  obtain⟨v,hv,h⟩:=aB.1 (show ob (gN σ x) _=some r from h)
  obtain⟨u,hu,h⟩:=aB.1 h
  obtain⟨g,hg,h⟩:=aB.1 h
  exact⟨g,H,h,.comp rfl (Gi hG (bS F hv) (bS F hu) hg) (fun w v hr=>by simp[execOp,hr])⟩
 |index T x y=>
  obtain⟨v,hv,h⟩:=aB.1 (show ob (gN σ x) _=some r from h)
  obtain⟨u,hu,h⟩:=aB.1 h
  obtain⟨g,hg,h⟩:=aB.1 h
  exact⟨g,H,h,.comp rfl (PO hG (bS F hv) (bS F hu) hg) (fun w v hr=>by simp[execOp,hr])⟩
 |lookup T x y ok=>
  obtain⟨v,hv,h⟩:=aB.1 (show ob (gN σ x) _=some r from h)
  obtain⟨u,hu,h⟩:=aB.1 h
  obtain⟨g,hg,h⟩:=aB.1 h
  exact⟨g,H,h,.read rfl rfl (PV hG Rr (bS F hv) (bS F hu) hg) (fun v hr=>by simp[execOp,hr])⟩
 |mapUpdate T x y z=>
  obtain⟨v,hv,h⟩:=aB.1 (show ob (gN σ x) _=some r from h)
  obtain⟨u,hu,h⟩:=aB.1 h
  obtain⟨t,ht,h⟩:=aB.1 h
  obtain⟨g,H',hg,h⟩:=jM h
  exact⟨g,H',h,.act rfl (ML hG Rr (bS F hv) (bS F hu) (bS F ht) hg) (fun w' hr=>by simp[execOp,hr])⟩
 |extract x i=>
  obtain⟨v,hv,h⟩:=aB.1 (show ob (gN σ x) _=some r from h)
  obtain⟨g,hg,h⟩:=aB.1 h
  exact⟨g,H,h,.comp rfl (Ly (bS F hv) hg) (fun w v hr=>by simp[execOp,hr])⟩
 | call c =>
  obtain⟨cal,xs,ts⟩:=c
  cases cal with
  |value f=>exact Mj hih F Rr h
  |invoke x m=>cases h
  |builtin b=>
   refine RF hG F Rr ?_ h
   rcases hoa with hoa|⟨c,f,e1,e2⟩
   ·exact Nat.eq_of_beq_eq_true hoa
   ·cases e1;cases e2
 |_=>cases h
end
end
section
theorem xQ {R:Type}:∀(ks:List Nat) (vs:List GV) (f:GF->Option R),gF ks vs f=ob (gF ks vs some) f
 | [],[],f=>rfl
 | [],_::_,f=>rfl
 |key::ks,[],f=>rfl
 |key::ks,v::vs,f=>by
  show gF ks vs (fun σ=>f ((key,v)::σ))=ob (gF ks vs fun σ=>some ((key,v)::σ)) f
  rw[xQ ks vs (fun σ=>f ((key,v)::σ)),xQ ks vs (fun σ=>some ((key,v)::σ))]
  cases gF ks vs some<;>rfl
theorem mF {R:Type} {ks:List Nat} {vs:List GV} {f:GF->Option R} {r:R} (h:gF ks vs f=some r):∃σ,gF ks vs some=some σ∧f σ=some r:=by
 rw[xQ]at h;exact aB.1 h
theorem Ds {ρ:cS} {n:Nat} {σ:GF} {a:Act} (F:iA ρ n σ a):∀{ks:List Nat} {σ':GF},gF ks (wH σ ks) some=some σ'->iA ρ n σ' a
 | [],σ',h=>by cases h;exact⟨F.defers,F.size,fun t g hg=>by cases hg⟩
 | key :: ks, σ', h => by
  have h':gF ks (wH σ ks) (fun σ'=>some ((key,Option.casesOn (motive:=fun _=>GV) (AC σ key) .bad (fun v=>v))::σ'))=some σ':=h
  obtain⟨s,h1,h2⟩:=mF h'
  cases h2
  have ih:=Ds F h1
  refine⟨F.defers,F.size,fun t g hg=> ?_⟩
  rw[tX]at hg
  by_cases e:t=key
  ·subst e
   rw[if_pos rfl]at hg
   cases hk:AC σ t with
   |none=>rw[hk]at hg;cases hg;exact .bad _
   |some v=>rw[hk]at hg;cases hg;exact F.slot t v hk
  ·rw[if_neg e]at hg;exact ih.slot t g hg
theorem He (σ:GF):∀ks:List Nat,∃σ',gF ks (wH σ ks) some=some σ'
 | []=>⟨[],rfl⟩
 |key::ks=>by
  obtain⟨σ',h⟩:=He σ ks
  refine⟨(key,Option.casesOn (motive:=fun _=>GV) (AC σ key) .bad (fun v=>v))::σ',?_⟩
  show gF ks (wH σ ks) (fun σ'=>some ((key,Option.casesOn (motive:=fun _=>GV) (AC σ key) .bad (fun v=>v))::σ'))=_
  rw[xQ,h];rfl
theorem DN:∀{m i:Nat} {us:List GV} {σ:GF},gF (List.range' i m) us some=some σ->us.length=m
 |0,i,[],σ,h=>rfl
 |0,i,_::_,σ,h=>by cases h
 |m+1,i,[],σ,h=>by cases h
 |m+1,i,u::us,σ,h=>by
  obtain⟨s,h3,_⟩:=mF (show gF (List.range' (i+1) m) us (fun σ=>some ((i,u)::σ))=some σ from h)
  simp[DN h3]
theorem Gy {ρ:cS} {n:Nat} {a:Act} (hd:a.defers=[]) (hs:a.tmps.size=n):∀{m i:Nat} {us:List GV} {vs:iN} {σ:GF},mQ ρ us vs->(∀j v,vs[j]? = some v->a.tmps[i+j]? = some v)->gF (List.range' i m) us some=some σ->iA ρ n σ a
 |0,i,[],vs,σ,_,_,h=>by cases h;exact⟨hd,hs,fun t g hg=>by cases hg⟩
 |0,i,_::_,vs,σ,_,_,h=>by cases h
 |m+1,i,[],vs,σ,_,_,h=>by cases h
 | m + 1, i, u :: us, vs, σ, hr, ha, h => by
  obtain⟨v,vs,rfl,h1,h2⟩:=hr.of_cons
  have h':gF (List.range' (i+1) m) us (fun σ=>some ((i,u)::σ))=some σ:=h
  obtain⟨s,h3,h4⟩:=mF h'
  cases h4
  have ih:=Gy hd hs h2 (fun j v hv=>by have:=ha (j+1) v (by simpa using hv);rwa[show i+(j+1)=i+1+j by omega]at this) h3
  refine⟨hd,hs,fun t g hg=> ?_⟩
  rw[tX]at hg
  by_cases e:t=i
  ·subst e;rw[if_pos rfl]at hg;cases hg
   have:=ha 0 v rfl
   simp[Act.eval,show a.tmps[t]? = some v by simpa using this,h1]
  ·rw[if_neg e]at hg;exact ih.slot t g hg
def Cq (n:Nat) (o:Oper):Bool:=fY o&&(match o.dst with|none=>true|some d=>Nat.blt d n)&&(Ev o.op||(match o.op with|.call c=>(match c.callee with|.value _=>true|_=>false)|_=>false))
section
variable {P:Program} {tb:TB} {gs:rK} {w0:cM gs}
theorem oE {n:Nat} {o:Oper} (h:Cq n o=true):fY o=true∧(∀d,o.dst=some d->d<n)∧(Ev o.op=true∨∃c f,o.op = .call c∧c.callee = .value f):=by
 unfold Cq at h
 simp only[Bool.and_eq_true,Bool.or_eq_true]at h
 obtain⟨⟨h1,h2⟩,h3⟩:=h
 refine⟨h1,fun d hd=> ?_,?_⟩
 ·rw[hd]at h2;simpa [Nat.blt_eq]using h2
 ·rcases h3 with h3|h3
  ·exact .inl h3
  ·right
   cases ho:o.op with
   |call c=>
    rw[ho]at h3
    cases hc:c.callee with
    |value f=>exact⟨c,f,rfl,hc⟩
    |invoke x m=>simp only[hc]at h3;cases h3
    |builtin b=>simp only[hc]at h3;cases h3
   |_=>rw[ho]at h3;cases h3
theorem iA.putD {ρ:cS} {n:Nat} {σ:GF} {a:Act} (F:iA ρ n σ a) {d:Option Nat} (hd:∀x,d=some x->x<n) {g:GV} {v:Value} (hv:Rl ρ g v):iA ρ n (putD d g σ) (a.put d v):=by
 cases d with
 |none=>exact⟨F.defers,F.size,F.slot⟩
 |some d=>exact F.put (hd d rfl) hv
theorem Rs {ih:CH} (hG:dK P tb) (hih:nD P w0 ih) {all:List Oper} {n:Nat} {o:Oper} {k:GS->RS} {s:GS} {out:HC} {ρ:cS} {a:Act} {w:World} (ho:Cq n o=true) (F:iA ρ n s.σ a) (R:dU w0 ρ s.H w) (h:Ec tb ih all o k s=some out):
  (Region.wanted o (yielded all.toArray a.tmps)=true∧∃g H',k ⟨putD o.dst g s.σ,H'⟩=some out∧vW P w0 ρ s.σ a w o g s.H H')∨
  (Region.wanted o (yielded all.toArray a.tmps)=false∧k ⟨putD o.dst .un s.σ,s.H⟩=some out):=by
 obtain⟨h1,h2,h3⟩:=oE ho
 unfold Ec at h
 cases hg:o.guard with
 |none=>
  rw[hg]at h
  obtain⟨g,H',hk,hs⟩:=JQ hG hih F R h3 (show Hu tb ih o.op s.σ s.H (WC o.dst s k)=some out from h)
  exact .inl ⟨by simp[Region.wanted,hg],g,H',hk,hs⟩
 | some gd =>
  rw[hg]at h
  obtain⟨oj,hoj,h⟩:=aB.1 (show ob (BV all gd.1) _=some out from h)
  obtain⟨dj,hdj,h⟩:=aB.1 h
  obtain⟨v,hv,h⟩:=aB.1 h
  obtain⟨g,H',hgv,hkk⟩:=jM h
  have hslot:=F.slot dj v hv
  rw[oS]at hoj
  have hy:yielded all.toArray a.tmps gd.1=(match a.tmps[dj]? with|some (.bool b)=>some b|_=>none):=by
   unfold yielded
   have:(all.toArray[gd.1]?).bind (·.dst)=some dj:=by simp[hoj,hdj]
   rw[this];rfl
  cases v with
  | bool q =>
   have he:=hslot.bool_inv
   have hq:a.tmps[dj]? = some (.bool q):=by
    simp only[Act.eval,Array.getD_eq_getD_getElem?]at he
    cases hx:a.tmps[dj]? with
    |none=>rw[hx]at he;cases he
    |some z=>rw[hx]at he;simp at he;rw[he]
   rw[hq]at hy
   have hgv':Bool.casesOn (motive:=fun _=>OR) (KO q gd.2) (some (.un,s.H)) (Hu tb ih o.op s.σ s.H sJ)=some (g,H'):=hgv
   rw[AV]at hgv'
   have hw:Region.wanted o (yielded all.toArray a.tmps)=(q==gd.2):=by
    simp only[Region.wanted,hg]
    rw[hy]
    cases q<;>cases gd.2<;>rfl
   cases hqb:(q==gd.2)with
   |true=>
    rw[hqb]at hgv'
    obtain⟨g',H'',hk,hs⟩:=JQ hG hih F R h3 (show Hu tb ih o.op s.σ s.H sJ=some (g,H')from hgv')
    cases hk
    exact .inl ⟨by rw[hw,hqb],g,H',hkk,hs⟩
   |false=>
    rw[hqb]at hgv'
    cases hgv'
    exact .inr ⟨by rw[hw,hqb],hkk⟩
  | un =>
   have he:=hslot.un_inv
   cases hgv
   refine .inr ⟨?_,hkk⟩
   simp only[Region.wanted,hg]
   rw[hy]
   have:(match a.tmps[dj]? with|some (.bool b)=>some b|_=>none)=(none:Option Bool):=by
    simp only[Act.eval,Array.getD_eq_getD_getElem?]at he
    cases hx:a.tmps[dj]? with
    |none=>rfl
    |some z=>rw[hx]at he;simp at he;rw[he];rfl
   rw[this];rfl
  |_=>cases hgv
theorem Bv {ih:CH} (hG:dK P tb) (hih:nD P w0 ih) {all:List Oper} {n:Nat} {k:GS->RS} {out:HC} {Q:Exit->Act->World->Prop}:∀(l:List Oper) (s:GS) (ρ:cS) (a:Act) (w:World),l.all (Cq n)=true->iA ρ n s.σ a->dU w0 ρ s.H w->AI tb ih all k l s=some out->
  (∀s' ρ' a' w',k s'=some out->ρ.le ρ'->iA ρ' n s'.σ a'->dU w0 ρ' s'.H w'->Q .normal a' w')->Sx.wpList P all.toArray Q l a w
 | [],s,ρ,a,w,_,F,R,h,hk=>hk s ρ a w h (cS.le_refl _) F R
 | o :: l, s, ρ, a, w, hl, F, R, h, hk => by
  simp only[List.all_cons,Bool.and_eq_true]at hl
  obtain⟨_,hdst,_⟩:=oE hl.1
  rcases Rs hG hih hl.1 F R (show Ec tb ih all o (AI tb ih all k l) s=some out from h)with⟨hw,g,H',hk',hs⟩|⟨hw,hk'⟩
  ·refine jA hw ?_
   have fin:∀ρ' w' v,ρ.le ρ'->dU w0 ρ' H' w'->Rl ρ' g v->Sx.wpList P all.toArray Q l (a.put o.dst v) w':=fun ρ' w' v hle R' hv=>
    Bv hG hih l ⟨putD o.dst g s.σ,H'⟩ ρ' _ w' hl.2 ((F.le hle).putD hdst hv) R' hk' (fun s' ρ'' a' w'' h1 h2 h3 h4=>hk s' ρ'' a' w'' h1 (cS.le_trans hle h2) h3 h4)
   rcases hs with⟨_,_,_,rfl,v,hv,hr⟩|⟨_,_,rfl,v,_,_,_,_,_,hv,hr⟩|⟨_,_,rfl,v,hv,hr⟩|⟨_,hr⟩
   ·simp only[Oper.wp,hr w,Oper.upon];exact fin ρ w v (cS.le_refl _) R hv
   ·simp only[Oper.wp,hr w rfl,Oper.upon];exact fin ρ w v (cS.le_refl _) R hv
   ·simp only[Oper.wp,hr,Oper.upon];exact fin ρ w v (cS.le_refl _) R hv
   ·exact Eu (hr _ fin)
  ·unfold Sx.wpList
   rw[if_neg (by rw[hw];simp)]
   exact Bv hG hih l ⟨putD o.dst .un s.σ,s.H⟩ ρ _ w hl.2 (F.putD hdst .un) R hk' hk
theorem BD {l:List Oper} {p:Op->Bool} (h:Ah l p=true) {i j:Nat} {oi oj:Oper} (hi:l[i]? = some oi) (hj:l[j]? = some oj) (hr:p oi.op=true) (hl:cZ oj.op=true):before (lC l) i j=true∨before (lC l) j i=true:=by
 unfold Ah at h
 have h1:=List.all_eq_true.1 h i (List.mem_range.2 (aR hi))
 simp only[hi,hr,Bool.not_true,Bool.false_or]at h1
 have h2:=List.all_eq_true.1 h1 j (List.mem_range.2 (aR hj))
 simp only[hj,hl,Bool.not_true,Bool.false_or,Bool.or_eq_true]at h2
 exact h2
theorem Ja {α:Type} {H:GH} {h v:Nat} {k:Option α} {out:α} (x:Tn H h v k=some out):H.ver h=some v∧k=some out:=by
 obtain⟨u,hu,x⟩:=aB.1 (show ob (H.ver h) _=some out from x)
 cases hb:Nat.beq u v with
 |false=>rw[hb]at x;cases x
 |true=>rw[hb]at x;rw[hu,Nat.eq_of_beq_eq_true hb];exact⟨rfl,x⟩
theorem yO {m:List Nat} {i:Nat} {H:GH} {u:Unit}:∀{pr:List (Nat×Option (Nat×Nat))},DX m i H pr=some u->∀p∈pr,before m i p.1=false->∀hv,p.2=some hv->H.ver hv.1=some hv.2
 | [],h=>fun p hp=>by simp at hp
 | p :: pr, h => by
  have h':Bool.casesOn (motive:=fun _=>Option Unit) (before m i p.1) (Ai H p.2 (DX m i H pr)) (DX m i H pr)=some u:=h
  intro q hq hbq hv he
  cases hb:before m i p.1 with
  | false =>
   rw[hb]at h'
   have h2:(∀hv,p.2=some hv->H.ver hv.1=some hv.2)∧DX m i H pr=some u:=by
    cases hp2:p.2 with
    |none=>rw[hp2]at h';exact⟨fun _ h=>(by cases h),h'⟩
    |some x=>rw[hp2]at h';obtain⟨h1,h3⟩:=Ja (show Tn H x.1 x.2 _=some u from h');exact⟨fun y hy=>by cases hy;exact h1,h3⟩
   rcases List.mem_cons.1 hq with rfl|hq
   ·exact h2.1 hv he
   ·exact yO h2.2 q hq hbq hv he
  |true=>
   rw[hb]at h'
   rcases List.mem_cons.1 hq with rfl|hq
   ·rw[hb]at hbq;cases hbq
   ·exact yO h' q hq hbq hv he
theorem yP {m:List Nat} {i h v:Nat} {e:Option (Nat×Nat)}:∀{hs:List (Nat×GH)},DY m i h v hs=some e->e=some (h,v)∧∀q∈hs,before m i q.1=false->q.2.ver h=some v
 | [],x=>by cases x;exact⟨rfl,fun p hp=>by simp at hp⟩
 | q :: hs, x => by
  have x':Bool.casesOn (motive:=fun _=>Option (Option (Nat×Nat))) (before m i q.1) (Tn q.2 h v (DY m i h v hs)) (DY m i h v hs)=some e:=x
  cases hb:before m i q.1 with
  |false=>
   rw[hb]at x'
   obtain⟨h1,h2⟩:=Ja x'
   obtain⟨h3,h4⟩:=yP h2
   refine⟨h3,fun p hp hbp=> ?_⟩
   rcases List.mem_cons.1 hp with rfl|hp
   ·exact h1
   ·exact h4 p hp hbp
  |true=>
   rw[hb]at x'
   obtain⟨h3,h4⟩:=yP x'
   refine⟨h3,fun p hp hbp=> ?_⟩
   rcases List.mem_cons.1 hp with rfl|hp
   ·rw[hb]at hbp;cases hbp
   ·exact h4 p hp hbp
end
end
section
section
variable {R α:Type}
theorem rX (r:OR) (k:GV->GH->Option R):aL r k=aL (aL r sJ) k:=by
 cases r with
 |none=>rfl
 |some p=>rfl
theorem cJ (x:Option α) {f:α->Option R} {g:α->OR} {k:GV->GH->Option R} (h:∀a,f a=aL (g a) k):ob x f=aL (ob x g) k:=by
 cases x with
 |none=>rfl
 |some a=>exact h a
theorem Ry {tb:TB} {ih:CH} {σ:GF} {H:GH} (o:Op) (k:GV->GH->Option R):Hu tb ih o σ H k=aL (Hu tb ih o σ H sJ) k:=by
 have e1:∀x (f:GV->Option GV),k1 x f σ H k=aL (k1 x f σ H sJ) k:=fun x f=>cJ _ fun x=>cJ _ fun v=>cJ _ fun g=>rfl
 have e2:∀x y (f:GV->GV->Option GV),k2 x y f σ H k=aL (k2 x y f σ H sJ) k:=fun x y f=>cJ _ fun x=>cJ _ fun v=>cJ _ fun u=>cJ _ fun g=>rfl
 have e3:∀x y z (f:GV->GV->GV->Option GV),k3 x y z f σ H k=aL (k3 x y z f σ H sJ) k:=fun x y z f=>cJ _ fun x=>cJ _ fun v=>cJ _ fun u=>cJ _ fun t=>cJ _ fun g=>rfl
 cases o with
 |move x=>exact cJ _ fun v=>rfl
 |assign x=>exact cJ _ fun v=>rfl
 |pick c x y=>exact e3 _ _ _ _
 |alloc T=>exact rX _ _
 |box T x=>exact cJ _ fun v=>rX _ _
 |build T ps=>exact cJ _ fun vs=>cJ _ fun g=>rfl
 |buildSlice T m ps=>exact cJ _ fun x=>rX _ _
 |load T x=>exact cJ _ fun v=>cJ _ fun g=>rfl
 |store T x y=>exact cJ _ fun v=>cJ _ fun u=>rX _ _
 |nilCheck x=>exact e1 _ _
 |binOp op T x y T'=>exact e2 _ _ _
 |unOp op T x=>exact e1 _ _
 |convert S D x=>exact e1 _ _
 |makeFunc fn first caps=>
  cases fn with
  |func f=>exact cJ _ fun us=>cJ _ fun vs=>rfl
  |_=>rfl
 |makeMap T q=>
  cases q with
  |none=>exact rX _ _
  |some x=>rfl
 |makeSlice T x y=>exact cJ _ fun v=>cJ _ fun u=>rX _ _
 |slice T x lo hi mx=>
  cases mx with
  |none=>exact cJ _ fun v=>cJ _ fun l=>cJ _ fun h=>cJ _ fun g=>rfl
  |some y=>rfl
 |fieldAddr T x f=>exact e1 _ _
 |field T x f=>exact e1 _ _
 |indexAddr T x y=>exact e2 _ _ _
 |index T x y=>exact e2 _ _ _
 |lookup T x y ok=>exact cJ _ fun v=>cJ _ fun u=>cJ _ fun g=>rfl
 |mapUpdate T x y z=>exact cJ _ fun v=>cJ _ fun u=>cJ _ fun t=>rX _ _
 |extract x i=>exact e1 _ _
 | call c =>
  obtain⟨cal,xs,ts⟩:=c
  cases cal with
  |value f=>exact cJ _ fun v=>cJ _ fun g=>cJ _ fun us=>rX _ _
  |invoke x m=>rfl
  | builtin b =>
   show JW tb xs ts b σ H k=aL (JW tb xs ts b σ H sJ) k
   obtain⟨xs⟩:=xs
   cases b with
   |len=>
    match xs with
    | []=>rfl
    | [x]=>exact cJ _ fun T=>cJ _ fun v=>cJ _ fun g=>rfl
    |_::_::_=>rfl
   |max=>
    match xs with
    | []=>rfl
    | [x]=>rfl
    | [x,y]=>exact e2 _ _ _
    |_::_::_::_=>rfl
   |min=>
    match xs with
    | []=>rfl
    | [x]=>rfl
    | [x,y]=>exact e2 _ _ _
    |_::_::_::_=>rfl
   |append=>
    match xs with
    | []=>rfl
    | [x]=>rfl
    | [x,y]=>exact cJ _ fun T=>cJ _ fun T'=>cJ _ fun v=>cJ _ fun u=>rX _ _
    |_::_::_::_=>rfl
   |copy=>
    match xs with
    | []=>rfl
    | [x]=>rfl
    | [x,y]=>exact cJ _ fun T=>cJ _ fun v=>cJ _ fun u=>rX _ _
    |_::_::_::_=>rfl
   |cap=>
    match xs with
    | []=>rfl
    | [x]=>exact cJ _ fun T=>cJ _ fun v=>cJ _ fun g=>rfl
    |_::_::_=>rfl
   |_=>rfl
 |_=>rfl
theorem xB {σ σ':GF}:∀{xs:List Operand},(∀x∈xs,gN σ x=gN σ' x)->AX σ xs=AX σ' xs
 | [],_=>rfl
 |x::xs,h=>by
  show ob (gN σ x) (fun v=>ob (AX σ xs) fun vs=>some (v::vs))=ob (gN σ' x) (fun v=>ob (AX σ' xs) fun vs=>some (v::vs))
  rw[h x List.mem_cons_self,xB fun y hy=>h y (List.mem_cons_of_mem _ hy)]
theorem xC {σ σ':GF}:∀{xs:List (Nat×Operand)},(∀x∈xs,gN σ x.2=gN σ' x.2)->oQ σ xs=oQ σ' xs
 | [],_=>rfl
 |x::xs,h=>by
  show ob (gN σ x.2) (fun v=>ob (oQ σ xs) fun vs=>some ((x.1,v)::vs))=ob (gN σ' x.2) (fun v=>ob (oQ σ' xs) fun vs=>some ((x.1,v)::vs))
  rw[h x List.mem_cons_self,xC fun y hy=>h y (List.mem_cons_of_mem _ hy)]
theorem Ef {σ σ':GF} {o:Option Operand} (h:∀x∈o.toArray,gN σ x=gN σ' x):Ch σ o=Ch σ' o:=by
 cases o with
 |none=>rfl
 |some x=>
  show ob (gN σ x) (fun v=>some (some v))=ob (gN σ' x) (fun v=>some (some v))
  rw[h x (by simp)]
theorem Mh {tb:TB} {ih:CH} {σ σ':GF} {H:GH} {o:Op} {k:GV->GH->Option R} (h:∀x∈o.operands,gN σ x=gN σ' x):Hu tb ih o σ H k=Hu tb ih o σ' H k:=by
 have e1:∀x (f:GV->Option GV),gN σ x=gN σ' x->k1 x f σ H k=k1 x f σ' H k:=fun x f e=>by simp only[k1,ob,e]
 have e2:∀x y (f:GV->GV->Option GV),gN σ x=gN σ' x->gN σ y=gN σ' y->k2 x y f σ H k=k2 x y f σ' H k:=fun x y f e e'=>by simp only[k2,ob,e,e']
 have e3:∀x y z (f:GV->GV->GV->Option GV),gN σ x=gN σ' x->gN σ y=gN σ' y->gN σ z=gN σ' z->k3 x y z f σ H k=k3 x y z f σ' H k:=fun x y z f e e' e''=>by simp only[k3,ob,e,e',e'']
 cases o with
 |move x=>show CP x σ H k=CP x σ' H k;simp only[CP,ob,h x (by simp[Op.operands])]
 |assign x=>show CP x σ H k=CP x σ' H k;simp only[CP,ob,h x (by simp[Op.operands])]
 |pick c x y=>exact e3 _ _ _ _ (h _ (by simp[Op.operands])) (h _ (by simp[Op.operands])) (h _ (by simp[Op.operands]))
 |alloc T=>rfl
 |box T x=>show RE x σ H k=RE x σ' H k;simp only[RE,ob,h x (by simp[Op.operands])]
 | build T ps =>
  show ob (oQ σ ps.toList) _=ob (oQ σ' ps.toList) _
  rw[xC fun x hx=>h x.2 (by
   have:x∈ps:=by simpa using hx
   simp only[Op.operands,List.mem_toArray,List.mem_map];exact⟨x,hx,rfl⟩)]
 | buildSlice T m ps =>
  show ob (oQ σ ps.toList) _=ob (oQ σ' ps.toList) _
  rw[xC fun x hx=>h x.2 (by
   simp only[Op.operands,List.mem_toArray,List.mem_map];exact⟨x,hx,rfl⟩)]
 |load T x=>show KU tb T x σ H k=KU tb T x σ' H k;simp only[KU,ob,h x (by simp[Op.operands])]
 |store T x y=>show GX tb T x y σ H k=GX tb T x y σ' H k;simp only[GX,ob,h x (by simp[Op.operands]),h y (by simp[Op.operands])]
 |nilCheck x=>exact e1 _ _ (h _ (by simp[Op.operands]))
 |binOp op T x y T'=>exact e2 _ _ _ (h _ (by simp[Op.operands])) (h _ (by simp[Op.operands]))
 |unOp op T x=>exact e1 _ _ (h _ (by simp[Op.operands]))
 |convert S D x=>exact e1 _ _ (h _ (by simp[Op.operands]))
 | makeFunc fn first caps =>
  cases fn with
  | func f =>
   show ob (AX σ first.toList) _=ob (AX σ' first.toList) _
   rw[xB fun x hx=>h x (by simp only[Op.operands,Array.mem_append];exact .inl (by simpa using hx)),
    xB (xs:=caps.toList) fun x hx=>h x (by simp only[Op.operands,Array.mem_append];exact .inr (by simpa using hx))]
  |_=>rfl
 |makeMap T q=>
  cases q with
  |none=>rfl
  |some x=>rfl
 |makeSlice T x y=>show KW tb T x y σ H k=KW tb T x y σ' H k;simp only[KW,ob,h x (by simp[Op.operands]),h y (by simp[Op.operands])]
 | slice T x lo hi mx =>
  cases mx with
  |none=>
   show ob (some x) (fun x=>ob (gN σ x) fun v=>ob (Ch σ lo) fun l=>ob (Ch σ hi) fun h=>ob (oZ tb T v l h H) fun g=>k g H)=ob (some x) (fun x=>ob (gN σ' x) fun v=>ob (Ch σ' lo) fun l=>ob (Ch σ' hi) fun h=>ob (oZ tb T v l h H) fun g=>k g H)
   have hlo:Ch σ lo=Ch σ' lo:=Ef fun y hy=>h y (by simp only[Op.operands,Array.mem_append];exact .inl (.inl (.inr hy)))
   have hhi:Ch σ hi=Ch σ' hi:=Ef fun y hy=>h y (by simp only[Op.operands,Array.mem_append];exact .inl (.inr hy))
   have hx:gN σ x=gN σ' x:=h x (by simp only[Op.operands,Array.mem_append];exact .inl (.inl (.inl (by simp))))
   simp only[ob,hlo,hhi,hx]
  |some y=>rfl
 |fieldAddr T x f=>exact e1 _ _ (h _ (by simp[Op.operands]))
 |field T x f=>exact e1 _ _ (h _ (by simp[Op.operands]))
 |indexAddr T x y=>exact e2 _ _ _ (h _ (by simp[Op.operands])) (h _ (by simp[Op.operands]))
 |index T x y=>exact e2 _ _ _ (h _ (by simp[Op.operands])) (h _ (by simp[Op.operands]))
 |lookup T x y ok=>show KV tb T x y ok σ H k=KV tb T x y ok σ' H k;simp only[KV,ob,h x (by simp[Op.operands]),h y (by simp[Op.operands])]
 |mapUpdate T x y z=>show GW tb T x y z σ H k=GW tb T x y z σ' H k;simp only[GW,ob,h x (by simp[Op.operands]),h y (by simp[Op.operands]),h z (by simp[Op.operands])]
 |extract x i=>exact e1 _ _ (h _ (by simp[Op.operands]))
 | call c =>
  obtain⟨cal,xs,ts⟩:=c
  cases cal with
  |value f=>
   have hf:gN σ f=gN σ' f:=h f (by simp[Op.operands,Call.operands])
   have hxs:AX σ xs.toList=AX σ' xs.toList:=xB fun x hx=>h x (by simp[Op.operands,Call.operands];exact .inr (by simpa using hx))
   show ob (gN σ f) _=ob (gN σ' f) _
   simp only[ob,hf,hxs]
  |invoke x m=>rfl
  | builtin b =>
   show JW tb xs ts b σ H k=JW tb xs ts b σ' H k
   have hx:∀x∈xs,gN σ x=gN σ' x:=fun x hx=>h x (by simp[Op.operands,Call.operands];exact hx)
   obtain⟨xs⟩:=xs
   cases b with
   |len=>
    match xs,hx with
    | [],_=>rfl
    | [x],hx=>show Ml tb ts.toList x σ H k=Ml tb ts.toList x σ' H k;simp only[Ml,ob,hx x (by simp)]
    |_::_::_,_=>rfl
   |max=>
    match xs,hx with
    | [],_=>rfl
    | [x],_=>rfl
    | [x,y],hx=>exact e2 _ _ _ (hx _ (by simp)) (hx _ (by simp))
    |_::_::_::_,_=>rfl
   |min=>
    match xs,hx with
    | [],_=>rfl
    | [x],_=>rfl
    | [x,y],hx=>exact e2 _ _ _ (hx _ (by simp)) (hx _ (by simp))
    |_::_::_::_,_=>rfl
   |append=>
    match xs,hx with
    | [],_=>rfl
    | [x],_=>rfl
    | [x,y],hx=>show Oo tb ts.toList x y σ H k=Oo tb ts.toList x y σ' H k;simp only[Oo,ob,hx x (by simp),hx y (by simp)]
    |_::_::_::_,_=>rfl
   |copy=>
    match xs,hx with
    | [],_=>rfl
    | [x],_=>rfl
    | [x,y],hx=>show If tb ts.toList x y σ H k=If tb ts.toList x y σ' H k;simp only[If,ob,hx x (by simp),hx y (by simp)]
    |_::_::_::_,_=>rfl
   |cap=>
    match xs,hx with
    | [],_=>rfl
    | [x],hx=>show Mk tb ts.toList x σ H k=Mk tb ts.toList x σ' H k;simp only[Mk,ob,hx x (by simp)]
    |_::_::_,_=>rfl
   |_=>rfl
 |_=>rfl
end
noncomputable def AB (tb:TB) (ih:CH) (all:List Oper) (o:Oper) (σ:GF) (H:GH):OR:=Option.casesOn (motive:=fun _=>OR) o.guard (Hu tb ih o.op σ H sJ) fun g=>ob (BV all g.1) fun oj=>ob oj.dst fun dj=>ob (AC σ dj) fun v=>Ve tb ih o ⟨σ,H⟩ g.2 v
theorem Rq {tb:TB} {ih:CH} {all:List Oper} {o:Oper} {k:GS->RS} {s:GS}:Ec tb ih all o k s=aL (AB tb ih all o s.σ s.H) (WC o.dst s k):=by
 unfold Ec AB
 cases o.guard with
 |none=>exact Ry _ _
 |some g=>exact cJ _ fun oj=>cJ _ fun dj=>cJ _ fun v=>rfl
theorem Ac {tb:TB} {ih:CH} {all:List Oper} {o:Oper} {k:GS->RS} {s:GS} {out:HC} (h:Ec tb ih all o k s=some out):∃g H',AB tb ih all o s.σ s.H=some (g,H')∧k ⟨putD o.dst g s.σ,H'⟩=some out:=by
 rw[Rq]at h
 obtain⟨g,H',h1,h2⟩:=jM h
 exact⟨g,H',h1,h2⟩
theorem JM {tb:TB} {ih:CH} {all:List Oper} {o:Oper} {σ σ':GF} {H:GH} (h:∀t∈o.looksAt all.toArray,AC σ t=AC σ' t):AB tb ih all o σ H=AB tb ih all o σ' H:=by
 have hop:Hu tb ih o.op σ H sJ=Hu tb ih o.op σ' H sJ:=Mh fun x hx=>by
  cases x with
  |tmp t=>exact h t (List.mem_append_left _ (List.mem_filterMap.2 ⟨.tmp t,by simpa using hx,rfl⟩))
  |_=>rfl
 unfold AB
 cases hg:o.guard with
 |none=>exact hop
 | some g =>
  show ob (BV all g.1) _=ob (BV all g.1) _
  cases hn:BV all g.1 with
  |none=>rfl
  | some oj =>
   show ob oj.dst _=ob oj.dst _
   cases hd:oj.dst with
   |none=>rfl
   | some dj =>
    have ht:dj∈o.looksAt all.toArray:=by
     rw[oS]at hn
     simp[Oper.looksAt,hg,hn,hd]
    show ob (AC σ dj) (fun v=>Ve tb ih o ⟨σ,H⟩ g.2 v)=ob (AC σ' dj) (fun v=>Ve tb ih o ⟨σ',H⟩ g.2 v)
    rw[h dj ht]
    cases AC σ' dj with
    |none=>rfl
    | some v =>
     show Ve tb ih o ⟨σ,H⟩ g.2 v=Ve tb ih o ⟨σ',H⟩ g.2 v
     cases v with
     |bool q=>
      show Bool.casesOn (motive:=fun _=>OR) (KO q g.2) (some (.un,H)) (Hu tb ih o.op σ H sJ)=Bool.casesOn (motive:=fun _=>OR) (KO q g.2) (some (.un,H)) (Hu tb ih o.op σ' H sJ)
      rw[hop]
     |_=>rfl
section
variable {P:Program} {tb:TB} {gs:rK} {w0:cM gs}
theorem Ab {ih:CH} {all:List Oper} {n:Nat} {o:Oper} {σ:GF} {H H':GH} {g:GV} {ρ:cS} {a:Act} (F:iA ρ n σ a) (h:AB tb ih all o σ H=some (g,H')):
  (Region.wanted o (yielded all.toArray a.tmps)=true∧Hu tb ih o.op σ H sJ=some (g,H'))∨(Region.wanted o (yielded all.toArray a.tmps)=false∧g = .un∧H'=H):=by
 unfold AB at h
 cases hg:o.guard with
 |none=>
  rw[hg]at h
  exact .inl ⟨by simp[Region.wanted,hg],h⟩
 | some gd =>
  rw[hg]at h
  obtain⟨oj,hoj,h⟩:=aB.1 (show ob (BV all gd.1) _=some (g,H')from h)
  obtain⟨dj,hdj,h⟩:=aB.1 h
  obtain⟨v,hv,hgv⟩:=aB.1 h
  have hslot:=F.slot dj v hv
  rw[oS]at hoj
  have hy:yielded all.toArray a.tmps gd.1=(match a.tmps[dj]? with|some (.bool b)=>some b|_=>none):=by
   unfold yielded
   have:(all.toArray[gd.1]?).bind (·.dst)=some dj:=by simp[hoj,hdj]
   rw[this];rfl
  cases v with
  | bool q =>
   have he:=hslot.bool_inv
   have hq:a.tmps[dj]? = some (.bool q):=by
    simp only[Act.eval,Array.getD_eq_getD_getElem?]at he
    cases hx:a.tmps[dj]? with
    |none=>rw[hx]at he;cases he
    |some z=>rw[hx]at he;simp at he;rw[he]
   rw[hq]at hy
   have hgv':Bool.casesOn (motive:=fun _=>OR) (KO q gd.2) (some (.un,H)) (Hu tb ih o.op σ H sJ)=some (g,H'):=hgv
   rw[AV]at hgv'
   have hw:Region.wanted o (yielded all.toArray a.tmps)=(q==gd.2):=by
    simp only[Region.wanted,hg]
    rw[hy]
    cases q<;>cases gd.2<;>rfl
   cases hqb:(q==gd.2)with
   |true=>rw[hqb]at hgv';exact .inl ⟨by rw[hw,hqb],hgv'⟩
   |false=>rw[hqb]at hgv';cases hgv';exact .inr ⟨by rw[hw,hqb],rfl,rfl⟩
  | un =>
   have he:=hslot.un_inv
   cases hgv
   refine .inr ⟨?_,rfl,rfl⟩
   simp only[Region.wanted,hg]
   rw[hy]
   have:(match a.tmps[dj]? with|some (.bool b)=>some b|_=>none)=(none:Option Bool):=by
    simp only[Act.eval,Array.getD_eq_getD_getElem?]at he
    cases hx:a.tmps[dj]? with
    |none=>rfl
    |some z=>rw[hx]at he;simp at he;rw[he];rfl
   rw[this];rfl
  |_=>cases hgv
theorem Dj {ih:CH} (hG:dK P tb) (hih:nD P w0 ih) {all:List Oper} {n:Nat} {o:Oper} {σ:GF} {H H':GH} {g:GV} {ρ:cS} {a:Act} {w:World} (ho:Cq n o=true) (F:iA ρ n σ a) (R:dU w0 ρ H w) (h:AB tb ih all o σ H=some (g,H')):
  (Region.wanted o (yielded all.toArray a.tmps)=true∧vW P w0 ρ σ a w o g H H')∨(Region.wanted o (yielded all.toArray a.tmps)=false∧g = .un∧H'=H):=by
 obtain⟨_,_,h3⟩:=oE ho
 rcases Ab F h with⟨hw,hg⟩|h
 ·obtain⟨g',H'',hk,hs⟩:=JQ hG hih F R h3 hg
  cases hk
  exact .inl ⟨hw,hs⟩
 ·exact .inr h
def PD (tb:TB) (T:TypeId):Bool:=match tb T with
 |some t=>(match t.desc with|.array .. => false|_=>true)
 |none=>false
def pureOp (tb:TB):Op->Bool
 | .move _ | .assign _ | .pick .. | .build .. | .nilCheck _ | .binOp .. | .unOp .. | .convert .. | .makeFunc .. | .fieldAddr .. | .field .. | .indexAddr .. | .index .. | .extract .. => true
 | .slice T _ _ _ _=>PD tb T
 | .call ⟨.builtin .len,_,_⟩ | .call ⟨.builtin .max,_,_⟩ | .call ⟨.builtin .min,_,_⟩=>true
 |_=>false
def isFloat:Op->Bool
 | .buildSlice .. | .alloc .. | .box .. => true
 |_=>false
theorem eK {ρ:cS} {g:GV} {s:Sem Value} {a:Act} {o:Oper} (h:wP P ρ s g) (he:∀w v,s.run P w = .ok v w->(execOp a.eval o).run P w = .ok (.value v) w):∃v,Rl ρ g v∧∀w,(execOp a.eval o).run P w = .ok (.value v) w:=
 let ⟨v,hv,hr⟩:=h;⟨v,hv,fun w=>he w v (hr w)⟩
theorem Oi {ih:CH} (hG:dK P tb) {ρ:cS} {n:Nat} {σ:GF} {a:Act} (F:iA ρ n σ a) {o:Oper} {H H':GH} {g:GV} (hp:pureOp tb o.op=true) (hoa:Ev o.op=true) (h:Hu tb ih o.op σ H sJ=some (g,H')):
  H'=H∧∃v,Rl ρ g v∧∀w,(execOp a.eval o).run P w = .ok (.value v) w:=by
 obtain⟨d,op,ty,pos,aft,gd⟩:=o
 cases op with
 |move x=>
  obtain⟨v,hv,h⟩:=aB.1 (show ob (gN σ x) _=some (g,H')from h)
  cases h
  exact⟨rfl,_,bS F hv,fun w=>by simp[execOp]⟩
 |assign x=>
  obtain⟨v,hv,h⟩:=aB.1 (show ob (gN σ x) _=some (g,H')from h)
  cases h
  exact⟨rfl,_,bS F hv,fun w=>by simp[execOp]⟩
 |pick c x y=>
  obtain⟨v,hv,h⟩:=aB.1 (show ob (gN σ c) _=some (g,H')from h)
  obtain⟨u,hu,h⟩:=aB.1 h
  obtain⟨t,ht,h⟩:=aB.1 h
  obtain⟨g',hg,h⟩:=aB.1 h
  cases h
  obtain⟨b,hb,hg⟩:=aB.1 (show ob v.asB _=some g from hg)
  have hc:=bS F hv
  rw[wY hb]at hc
  cases b with
  |true=>cases hg;exact⟨rfl,_,bS F hu,fun w=>by simp[execOp,hc.bool_inv,asBool]⟩
  |false=>cases hg;exact⟨rfl,_,bS F ht,fun w=>by simp[execOp,hc.bool_inv,asBool]⟩
 | build T ps =>
  obtain⟨vs,hvs,h⟩:=aB.1 (show ob (oQ σ ps.toList) _=some (g,H')from h)
  obtain⟨g',hg,h⟩:=aB.1 h
  cases h
  exact⟨rfl,eK (Gg hG (wC F hvs) hg) (fun w v hr=>by
   have e:(ps.toList.map fun p=>(p.1,a.eval p.2)).toArray=ps.map fun p=>(p.1,a.eval p.2):=by apply Array.toList_inj.1;simp
   rw[e]at hr
   simp[execOp,hr])⟩
 |nilCheck x=>
  obtain⟨v,hv,h⟩:=aB.1 (show ob (gN σ x) _=some (g,H')from h)
  obtain⟨g',hg,h⟩:=aB.1 h
  cases h
  obtain⟨rfl,hr⟩:=Ir (P:=P) (bS F hv) hg
  exact⟨rfl,_,bS F hv,fun w=>hr _ x a.eval rfl rfl w⟩
 | binOp op T x y T' =>
  obtain⟨v,hv,h⟩:=aB.1 (show ob (gN σ x) _=some (g,H')from h)
  obtain⟨u,hu,h⟩:=aB.1 h
  obtain⟨g',hg,h⟩:=aB.1 h
  cases h
  exact⟨rfl,eK (Lu hG x y (bS F hv) (bS F hu) hg) (fun w v hr=>by
   simp only[execOp]
   simp at hr ⊢
   cases hq:Sem.run P (eqGuard op T x y (a.eval x) (a.eval y)) w with
   |ok u w1=>rw[hq]at hr;simp at hr;simp[hr]
   |halt h1 w1=>rw[hq]at hr;cases hr)⟩
 |unOp op T x=>
  obtain⟨v,hv,h⟩:=aB.1 (show ob (gN σ x) _=some (g,H')from h)
  obtain⟨g',hg,h⟩:=aB.1 h
  cases h
  exact⟨rfl,eK (PZ (bS F hv) hg) (fun w v hr=>by simp[execOp,hr])⟩
 |convert S D x=>
  obtain⟨v,hv,h⟩:=aB.1 (show ob (gN σ x) _=some (g,H')from h)
  obtain⟨g',hg,h⟩:=aB.1 h
  cases h
  exact⟨rfl,eK (IV hG (bS F hv) hg) (fun w v hr=>by simp[execOp,hr])⟩
 | makeFunc fn first caps =>
  cases fn with
  |func f=>
   obtain⟨us,hus,h⟩:=aB.1 (show ob (AX σ first.toList) _=some (g,H')from h)
   obtain⟨vs,hvs,h⟩:=aB.1 h
   cases h
   refine⟨rfl,_,Jz (Ad F hus) (Ad F hvs),fun w=> ?_⟩
   have e1:(first.toList.map a.eval).toArray=first.map a.eval:=by apply Array.toList_inj.1;simp
   have e2:(caps.toList.map a.eval).toArray=caps.map a.eval:=by apply Array.toList_inj.1;simp
   rw[e1,e2]
   simp[execOp,Instr.makeFunc]
  |_=>cases h
 |fieldAddr T x f=>
  obtain⟨v,hv,h⟩:=aB.1 (show ob (gN σ x) _=some (g,H')from h)
  obtain⟨g',hg,h⟩:=aB.1 h
  cases h
  exact⟨rfl,eK (Gh hG (bS F hv) hg) (fun w v hr=>by simp[execOp,hr])⟩
 |field T x f=>
  obtain⟨v,hv,h⟩:=aB.1 (show ob (gN σ x) _=some (g,H')from h)
  obtain⟨g',hg,h⟩:=aB.1 h
  cases h
  exact⟨rfl,eK (IZ hG (bS F hv) hg) (fun w v hr=>by simp[execOp,hr])⟩
 |indexAddr T x y=>
  obtain⟨v,hv,h⟩:=aB.1 (show ob (gN σ x) _=some (g,H')from h)
  obtain⟨u,hu,h⟩:=aB.1 h
  obtain⟨g',hg,h⟩:=aB.1 h
  cases h
  exact⟨rfl,eK (Gi hG (bS F hv) (bS F hu) hg) (fun w v hr=>by simp[execOp,hr])⟩
 |index T x y=>
  obtain⟨v,hv,h⟩:=aB.1 (show ob (gN σ x) _=some (g,H')from h)
  obtain⟨u,hu,h⟩:=aB.1 h
  obtain⟨g',hg,h⟩:=aB.1 h
  cases h
  exact⟨rfl,eK (PO hG (bS F hv) (bS F hu) hg) (fun w v hr=>by simp[execOp,hr])⟩
 | slice T x lo hi mx =>
  cases mx with
  | none =>
   obtain⟨v,hv,h⟩:=aB.1 (show ob (gN σ x) _=some (g,H')from h)
   obtain⟨l,hl,h⟩:=aB.1 h
   obtain⟨e,he,h⟩:=aB.1 h
   obtain⟨g',hg,h⟩:=aB.1 h
   cases h
   have hA:∀t,tb T=some t->UU t.desc=none:=fun t ht=>by
    have hs:PD tb T=true:=hp
    unfold PD at hs
    rw[ht]at hs
    simp only at hs
    cases hq:t.desc<;>rw[hq]at hs<;>first|rfl|cases hs
   exact⟨rfl,eK (Gj (gs:=Qn) hG (.inr hA) (bS F hv) (Dm F hl) (Dm F he) hg) (fun w v hr=>by simp[execOp,hr])⟩
  |some y=>cases h
 |extract x i=>
  obtain⟨v,hv,h⟩:=aB.1 (show ob (gN σ x) _=some (g,H')from h)
  obtain⟨g',hg,h⟩:=aB.1 h
  cases h
  exact⟨rfl,eK (Ly (bS F hv) hg) (fun w v hr=>by simp[execOp,hr])⟩
 | call c =>
  obtain⟨cal,xs,ts⟩:=c
  cases cal with
  |value f=>cases hp
  |invoke x m=>cases hp
  | builtin b =>
   have hlen:ts.size=xs.size:=Nat.eq_of_beq_eq_true hoa
   have h:JW tb xs ts b σ H sJ=some (g,H'):=h
   cases b with
   | len =>
    obtain⟨x,hx,h⟩:=xE (show Ek xs.toList (Ml tb ts.toList) σ H sJ=some (g,H')from h)
    obtain⟨T,hT,h⟩:=aB.1 (show ob (BV ts.toList 0) _=some (g,H')from h)
    obtain⟨v,hv,h⟩:=aB.1 h
    obtain⟨g',hg,h⟩:=aB.1 h
    cases h
    have ex:=Dw hx
    subst ex
    have et:ts = #[T]:=by
     rw[oS]at hT
     obtain⟨l⟩:=ts
     match l,hlen with
     | [t],_=>simp at hT;subst hT;rfl
    subst et
    exact⟨rfl,eK (Lz hG (ty:=ty) (bS F hv) hg) (fun w v hr=>by simp[execOp,resolve,invoke,builtin,hr])⟩
   | cap =>
    obtain⟨x,hx,h⟩:=xE (show Ek xs.toList (Mk tb ts.toList) σ H sJ=some (g,H')from h)
    obtain⟨T,hT,h⟩:=aB.1 (show ob (BV ts.toList 0) _=some (g,H')from h)
    obtain⟨v,hv,h⟩:=aB.1 h
    obtain⟨g',hg,h⟩:=aB.1 h
    cases h
    have ex:=Dw hx
    subst ex
    have et:ts = #[T]:=by
     rw[oS]at hT
     obtain⟨l⟩:=ts
     match l,hlen with
     | [t],_=>simp at hT;subst hT;rfl
    subst et
    exact⟨rfl,eK (Lv hG (ty:=ty) (bS F hv) hg) (fun w v hr=>by simp[execOp,resolve,invoke,builtin,hr])⟩
   | max =>
    obtain⟨x,y,hx,h⟩:=rT (show yW xs.toList (fun x y=>k2 x y PX) σ H sJ=some (g,H')from h)
    obtain⟨v,hv,h⟩:=aB.1 (show ob (gN σ x) _=some (g,H')from h)
    obtain⟨u,hu,h⟩:=aB.1 h
    obtain⟨g',hg,h⟩:=aB.1 h
    cases h
    have ex:=Aw hx
    subst ex
    obtain⟨t1,t2,et⟩:∃t1 t2,ts = #[t1,t2]:=by
     obtain⟨l⟩:=ts
     match l,hlen with
     | [t,t'],_=>exact⟨t,t',rfl⟩
    subst et
    exact⟨rfl,eK (LA (t1:=t1) (t2:=t2) (ty:=ty) (bS F hv) (bS F hu) hg) (fun w v hr=>by simp[execOp,resolve,invoke,builtin,hr])⟩
   | min =>
    obtain⟨x,y,hx,h⟩:=rT (show yW xs.toList (fun x y=>k2 x y SE) σ H sJ=some (g,H')from h)
    obtain⟨v,hv,h⟩:=aB.1 (show ob (gN σ x) _=some (g,H')from h)
    obtain⟨u,hu,h⟩:=aB.1 h
    obtain⟨g',hg,h⟩:=aB.1 h
    cases h
    have ex:=Aw hx
    subst ex
    obtain⟨t1,t2,et⟩:∃t1 t2,ts = #[t1,t2]:=by
     obtain⟨l⟩:=ts
     match l,hlen with
     | [t,t'],_=>exact⟨t,t',rfl⟩
    subst et
    exact⟨rfl,eK (LB (t1:=t1) (t2:=t2) (ty:=ty) (bS F hv) (bS F hu) hg) (fun w v hr=>by simp[execOp,resolve,invoke,builtin,hr])⟩
   |_=>cases hp
 |_=>cases hp
theorem IU (hG:dK P tb) {T:TypeId} {n:Nat} {l:List (Nat×GV)} {parts:List (Nat×Value)} {ρ:cS} {H H':GH} {g:GV} (hp:Va ρ l parts) (h:cV tb T n l H=some (g,H')):
  ∃cs a' T' len sz,H'=H.new (.cells cs)∧g = .sl H.n 0 len sz∧LP ρ cs a'∧cs.length=a'.size∧∀w:World,∃V,(Instr.buildSlice T n parts.toArray).run P w = .ok V (w.alloc (.cells a' T'))∧∀ρ':cS,ρ' H.n=some ⟨w.heap.size,0,a'.size,.cells a' T',.cells cs⟩->Rl ρ' g V:=by
 obtain⟨te,hte,h⟩:=aB.1 (show ob (tU tb T) _=some (g,H')from h)
 obtain⟨zc,hz,h⟩:=aB.1 h
 obtain⟨hlen,h⟩:=bB.1 h
 obtain⟨hbig,h⟩:=bB.1 h
 obtain⟨h0,h⟩:=kG.1 h
 obtain⟨cs,hfill,h⟩:=aB.1 h
 rw[gY]at h;cases h
 obtain⟨⟨d,hd,hde⟩,hE,htab⟩:=rR hG hte
 obtain⟨dz,hdz,_,hC⟩:=qJ (ρ:=ρ) hG hz
 rw[htab]at hdz;cases hdz
 have hlen:zc.length=te.2.size:=Nat.eq_of_beq_eq_true hlen
 have h0:te.2.size≠0:=fun e=>by rw[e]at h0;cases h0
 have hbig:n*te.2.size<16777216:=by simpa [Nat.blt_eq]using hbig
 have hrep:=Dt hC (by omega) n
 rw[hlen]at hrep
 obtain⟨a',f1,f2⟩:=Ae hp hrep hfill
 have hsz0:cs.length=a'.size:=by have:=f2.r.len;simpa using this
 have hsz:a'.size=n*te.2.size:=by
  have e1:=f2.r.len
  have:cs.length=(Ji zc n).length:=AY hfill
  rw[this,BF,hlen]at e1
  simp at e1;omega
 refine⟨cs,a',te.1,n,te.2.size,rfl,rfl,f2,hsz0,fun w=>⟨.slice (some ⟨w.heap.size,0,none⟩) n n,?_,fun ρ' hρ=> .sl (l:=⟨w.heap.size,0,a'.size,.cells a' te.1,.cells cs⟩) hρ (Nat.le_refl _) (.inr ⟨rfl,by simp[hsz]⟩)⟩⟩
 have hu:=hd.run_und w
 rw[hde]at hu
 by_cases hn:n*te.2.size=0
 ·have hz0:n=0:=by rcases Nat.mul_eq_zero.1 hn with h|h;exact h;exact absurd h h0
  subst hz0
  have e0:(Array.range (0*te.2.size)).map (te.2.zero.cells[· % te.2.zero.cells.size]!)=(#[]:Array Value):=by simp
  rw[e0]at f1
  have e1:(Array.range 0).map (fun _=>(default:Value)) = #[]:=by simp
  simp[Instr.buildSlice,hu,hE.run_size w,newRow]
  simp[e1,f1]
 ·simp[Instr.buildSlice,hu,hE.run_size w,hE.run_zero w,hn,f1,newRow,show¬(16777216<n*te.2.size) by omega]
theorem Nm {ρ0 ρ1 ρ2:cS} (hk:∀h l0 l,ρ0 h=some l0->ρ1 h=some l->ρ2 h=some l) {g:GV} {v:Value} (h1:Rl ρ1 g v):∀{v0:Value},Rl ρ0 g v0->Rl ρ2 g v:=by
 induction h1 with
 |int k n=>exact fun _=> .int k n
 |bool b=>exact fun _=> .bool b
 |str s=>exact fun _=> .str s
 |ptr off hl=>exact fun h0=>by cases h0 with|ptr _ hl0=>exact .ptr off (hk _ _ _ hl0 hl)
 |pnil=>exact fun _=> .pnil
 |sl hl hc ha=>exact fun h0=>by cases h0 with|sl hl0 _ _=>exact .sl (hk _ _ _ hl0 hl) hc ha
 |snil=>exact fun _=> .snil
 |map hl=>exact fun h0=>by cases h0 with|map hl0=>exact .map (hk _ _ _ hl0 hl)
 | fn f a b c d ihb ihd =>
   intro v0 h0
   cases h0 with
   | fn _ a0 b0 c0 d0 =>
    refine .fn f a (fun i g v hg hv=> ?_) c (fun i g v hg hv=> ?_)
    ·have:=aR hg
     exact ihb i g v hg hv (b0 i g _ hg (List.getElem?_eq_getElem (by omega)))
    ·have:=aR hg
     exact ihd i g v hg hv (d0 i g _ hg (List.getElem?_eq_getElem (by omega)))
 |fnil=>exact fun _=> .fnil
 |inil=>exact fun _=> .inil
 | agg a b c ihb =>
   intro v0 h0
   cases h0 with
   |agg a0 b0 c0=>
    refine .agg a (fun i g v hg hv=> ?_) c
    have:=aR hg
    exact ihb i g v hg hv (b0 i g _ hg (List.getElem?_eq_getElem (by omega)))
 | tup a b ihb =>
   intro v0 h0
   cases h0 with
   |tup a0 b0=>
    refine .tup a (fun i g v hg hv=> ?_)
    have:=aR hg
    exact ihb i g v hg hv (b0 i g _ hg (List.getElem?_eq_getElem (by omega)))
 |un=>exact fun _=> .un
 |bad v=>exact fun _=> .bad v
 | opn v h hx =>
   intro v0 h0
   obtain⟨l0,a,_⟩:=h0.opn_inv
   exact .opn v (hk _ _ _ a h) hx
structure SL (tb:TB) (ih:CH) (all l:List Oper) (S:Nat->GF) (HH:Nat->GH) (gg:Nat->GV):Prop where
 st:∀i o,l[i]? = some o->AB tb ih all o (S i) (HH i)=some (gg i,HH (i+1))
 up:∀i o,l[i]? = some o->S (i+1)=putD o.dst (gg i) (S i)
theorem FH {ih:CH} {all:List Oper} {k:GS->RS} {out:HC}:∀(l:List Oper) (s:GS),AI tb ih all k l s=some out->∃S HH gg,S 0=s.σ∧HH 0=s.H∧SL tb ih all l S HH gg∧k ⟨S l.length,HH l.length⟩=some out
 | [],s,h=>⟨fun _=>s.σ,fun _=>s.H,fun _=> .un,rfl,rfl,⟨fun i o ho=>by simp at ho,fun i o ho=>by simp at ho⟩,h⟩
 | o :: l, s, h => by
  obtain⟨g,H',h1,h2⟩:=Ac (show Ec tb ih all o (AI tb ih all k l) s=some out from h)
  obtain⟨S,HH,gg,e1,e2,ht,hk⟩:=FH l _ h2
  refine⟨fun i=>Nat.casesOn i s.σ S,fun i=>Nat.casesOn i s.H HH,fun i=>Nat.casesOn i g gg,rfl,rfl,⟨fun i o' ho=> ?_,fun i o' ho=> ?_⟩,hk⟩
  ·cases i with
   |zero=>simp at ho;subst ho;show AB tb ih all o s.σ s.H=some (g,HH 0);rw[h1,e2]
   |succ i=>exact ht.st i o' (by simpa using ho)
  ·cases i with
   |zero=>simp at ho;subst ho;exact e1
   |succ i=>exact ht.up i o' (by simpa using ho)
theorem t_ {o:Op} (h:kE o=true):cZ o=false:=by
 cases o<;>first|rfl|cases h
structure Wt (all l:List Oper) (m:List Nat) (i:Nat) (S:Nat->GF) (HH:Nat->GH) (pr:List (Nat×Option (Nat×Nat))) (hs:List (Nat×GH)):Prop where
 pr:∀q h v,(q,some (h,v))∈pr->∀j oj,l[j]? = some oj->cZ oj.op=true->before m (i+j) q=false->(HH (j+1)).ver h=some v
 hs:∀k ok h,l[k]? = some ok->kE ok.op=true->RH (S k) ok.op=some h->∃v,(HH k).ver h=some v∧∀q Hq,(q,Hq)∈hs->before m (i+k) q=false->Hq.ver h=some v
 lo:∀k ok h v,l[k]? = some ok->kE ok.op=true->RH (S k) ok.op=some h->(HH k).ver h=some v->
  (∀j oj,j<k->l[j]? = some oj->cZ oj.op=true->before m (i+k) (i+j)=false->(HH j).ver h=some v)∧(∀j oj,k<j->l[j]? = some oj->cZ oj.op=true->before m (i+j) (i+k)=false->(HH (j+1)).ver h=some v)
theorem Wt.cons {all l:List Oper} {m:List Nat} {i:Nat} {S:Nat->GF} {HH:Nat->GH} {pr pr':List (Nat×Option (Nat×Nat))} {hs hs':List (Nat×GH)} {o:Oper} {σ:GF} {H:GH} (V:Wt all l m (i+1) S HH pr' hs')
  (hpr:∀p∈pr,p∈pr') (hhs:∀p∈hs,p∈hs') (h1:cZ o.op=true->(i,H)∈hs'∧∀p∈pr,before m i p.1=false->∀hv,p.2=some hv->(HH 0).ver hv.1=some hv.2)
  (h2:kE o.op=true->∀h,RH σ o.op=some h->∃v,H.ver h=some v∧(i,some (h,v))∈pr'∧∀q Hq,(q,Hq)∈hs->before m i q=false->Hq.ver h=some v):
  Wt all (o::l) m i (fun j=>Nat.casesOn j σ S) (fun j=>Nat.casesOn j H HH) pr hs:=by
 have e:∀j,i+(j+1)=i+1+j:=fun j=>by omega
 refine⟨fun q h v hq j oj hj hl hb=> ?_,fun k ok h hk hl hh=> ?_,fun k ok h v hk hl hh hv=>⟨fun j oj hjk hj hlj hb=> ?_,fun j oj hjk hj hlj hb=> ?_⟩⟩
 ·cases j with
  |zero=>simp at hj;subst hj;exact(h1 hl).2 _ hq (by simpa using hb) _ rfl
  |succ j=>exact V.pr q h v (hpr _ hq) j oj (by simpa using hj) hl (by rw[<-e];exact hb)
 ·cases k with
  |zero=>
   simp at hk;subst hk
   obtain⟨v,a,_,c⟩:=h2 hl h hh
   exact⟨v,a,fun q Hq hq hb=>c q Hq hq (by simpa using hb)⟩
  |succ k=>
   obtain⟨v,a,b⟩:=V.hs k ok h (by simpa using hk) hl hh
   exact⟨v,a,fun q Hq hq hb=>b q Hq (hhs _ hq) (by rw[<-e];exact hb)⟩
 ·cases k with
  |zero=>omega
  | succ k =>
   have hk:l[k]? = some ok:=by simpa using hk
   cases j with
   |zero=>
    simp at hj;subst hj
    obtain⟨v',a,b⟩:=V.hs k ok h hk hl hh
    have a:(HH k).ver h=some v':=a
    have hv:(HH k).ver h=some v:=hv
    rw[a]at hv;cases hv
    exact b i H (h1 hlj).1 (by rw[<-e];simpa using hb)
   |succ j=>exact(V.lo k ok h v hk hl hh hv).1 j oj (by omega) (by simpa using hj) hlj (by rw[<-e,<-e];exact hb)
 ·cases j with
  |zero=>omega
  | succ j =>
   have hj:l[j]? = some oj:=by simpa using hj
   cases k with
   |zero=>
    simp at hk;subst hk
    obtain⟨v',a,b,_⟩:=h2 hl h hh
    have hv:H.ver h=some v:=hv
    rw[a]at hv;cases hv
    exact V.pr i h v b j oj hj hlj (by rw[<-e];simpa using hb)
   |succ k=>exact(V.lo k ok h v (by simpa using hk) hl hh hv).2 j oj (by omega) hj hlj (by rw[<-e,<-e];exact hb)
theorem Dk {ih:CH} {all:List Oper} {m:List Nat} {k:GS->RS} {out:HC}:∀(l:List Oper) (i:Nat) (pr:List (Nat×Option (Nat×Nat))) (hs:List (Nat×GH)) (s:GS),Vf tb ih all m k l i pr hs s=some out->
  ∃S HH gg,S 0=s.σ∧HH 0=s.H∧SL tb ih all l S HH gg∧Wt all l m i S HH pr hs∧k ⟨S l.length,HH l.length⟩=some out
 | [],i,pr,hs,s,h=>⟨fun _=>s.σ,fun _=>s.H,fun _=> .un,rfl,rfl,⟨fun i o ho=>by simp at ho,fun i o ho=>by simp at ho⟩,⟨fun _ _ _ _ j oj hj=>by simp at hj,fun k ok h hk=>by simp at hk,fun k ok h v hk=>by simp at hk⟩,h⟩
 | o :: l, i, pr, hs, s, h => by
  have h':Oa tb ih all m o (Vf tb ih all m k l) i pr hs s=some out:=h
  have trc:∀{g:GV} {H':GH} {S:Nat->GF} {HH:Nat->GH} {gg:Nat->GV},AB tb ih all o s.σ s.H=some (g,H')->S 0=putD o.dst g s.σ->HH 0=H'->SL tb ih all l S HH gg->SL tb ih all (o::l) (fun j=>Nat.casesOn j s.σ S) (fun j=>Nat.casesOn j s.H HH) (fun j=>Nat.casesOn j g gg):=fun {g H' S HH gg} h1 e1 e2 ht=>⟨fun i o' ho=>by
    cases i with
    |zero=>simp at ho;subst ho;show AB tb ih all o s.σ s.H=some (g,HH 0);rw[h1,e2]
    |succ i=>exact ht.st i o' (by simpa using ho),fun i o' ho=>by
    cases i with
    |zero=>simp at ho;subst ho;exact e1
    |succ i=>exact ht.up i o' (by simpa using ho)⟩
  unfold Oa at h'
  cases hlo:cZ o.op with
  |true=>
   rw[hlo]at h'
   obtain⟨g,H',h1,h2⟩:=Ac h'
   obtain⟨_,h4,h3⟩:=aB.1 h2
   have h4:=yO h4
   obtain⟨S,HH,gg,e1,e2,ht,hv,hk⟩:=Dk l _ _ _ _ h3
   refine⟨_,_,_,rfl,rfl,trc h1 e1 e2 ht,hv.cons (fun _ h=>h) (fun p hp=>List.mem_cons_of_mem _ hp) (fun _=>⟨List.mem_cons_self,fun p hp hb hv' he=>by rw[e2];exact h4 p hp hb hv' he⟩) (fun hld=>by rw[t_ hld]at hlo;cases hlo),hk⟩
  | false =>
   rw[hlo]at h'
   cases hld:kE o.op with
   |true=>
    simp only[hld]at h'
    obtain⟨g,H',h1,h2⟩:=Ac h'
    obtain⟨e,h4,h3⟩:=aB.1 h2
    obtain⟨S,HH,gg,e1,e2,ht,hv,hk⟩:=Dk l _ _ _ _ h3
    refine⟨_,_,_,rfl,rfl,trc h1 e1 e2 ht,hv.cons (fun p hp=>List.mem_cons_of_mem _ hp) (fun _ h=>h) (fun h=>by rw[hlo]at h;cases h) (fun _ hh hldh=> ?_),hk⟩
    rw[hldh]at h4
    obtain⟨v,hv1,h4⟩:=aB.1 (show ob (s.H.ver hh) (fun v=>DY m i hh v hs)=some e from h4)
    obtain⟨rfl,h5⟩:=yP h4
    exact⟨v,hv1,List.mem_cons_self,fun q Hq hq hb=>h5 (q,Hq) hq hb⟩
   |false=>
    simp only[hld]at h'
    obtain⟨g,H',h1,h2⟩:=Ac h'
    obtain⟨S,HH,gg,e1,e2,ht,hv,hk⟩:=Dk l _ _ _ _ h2
    exact⟨_,_,_,rfl,rfl,trc h1 e1 e2 ht,hv.cons (fun _ h=>h) (fun _ h=>h) (fun h=>by rw[hlo]at h;cases h) (fun h=>by rw[hld]at h;cases h),hk⟩
theorem N_ {ih:CH} (hG:dK P tb) (hih:nD P w0 ih) {all:List Oper} {n:Nat} {o:Oper} {σ:GF} {H H':GH} {g:GV} {ρ:cS} {a:Act} {w:World} (ho:Cq n o=true) (F:iA ρ n σ a) (R:dU w0 ρ H w) (h:AB tb ih all o σ H=some (g,H')):
  ∃ρ' a' w',ρ.le ρ'∧dU w0 ρ' H' w'∧iA ρ' n (putD o.dst g σ) a':=by
 obtain⟨_,hdst,_⟩:=oE ho
 rcases Dj hG hih ho F R h with⟨_,hs⟩|⟨_,rfl,rfl⟩
 ·rcases hs with⟨_,_,_,rfl,v,hv,_⟩|⟨_,_,rfl,v,_,_,_,_,_,hv,_⟩|⟨_,_,rfl,v,hv,_⟩|⟨_,hr⟩
  ·exact⟨ρ,_,w,cS.le_refl _,R,F.putD hdst hv⟩
  ·exact⟨ρ,_,w,cS.le_refl _,R,F.putD hdst hv⟩
  ·exact⟨ρ,_,w,cS.le_refl _,R,F.putD hdst hv⟩
  ·obtain⟨a',w',ρ',v,h1,h2,h3,rfl⟩:=Iv (hr (fun a' w'=>∃ρ' v,ρ.le ρ'∧dU w0 ρ' H' w'∧Rl ρ' g v∧a'=a.put o.dst v) fun ρ' w' v h1 h2 h3=>⟨ρ',v,h1,h2,h3,rfl⟩)
   exact⟨ρ',_,w',h1,h2,(F.le h1).putD hdst h3⟩
 ·exact⟨ρ,_,w,cS.le_refl _,R,F.putD hdst .un⟩
theorem Gd {ih:CH} (hG:dK P tb) (hih:nD P w0 ih) {all:List Oper} {n:Nat} (hall:all.all (Cq n)=true) {S:Nat->GF} {HH:Nat->GH} {gg:Nat->GV} (T:SL tb ih all all S HH gg) {ρ:cS} {a:Act} {w:World} (F:iA ρ n (S 0) a) (R:dU w0 ρ (HH 0) w):
    ∀m,m<=all.length->∃ρs:Nat->cS,(∀i,i<=m->∃a w,dU w0 (ρs i) (HH i) w∧iA (ρs i) n (S i) a)∧∀i,i<m->(ρs i).le (ρs (i+1))
  | 0, _ => ⟨fun _ => ρ, fun i hi => by
      have : i = 0 := by omega
      subst this;exact⟨a,w,R,F⟩,fun i hi=>by omega⟩
  | m + 1, hm => by
    obtain⟨ρs,h1,h2⟩:=Gd hG hih hall T F R m (by omega)
    obtain⟨a1,w1,R1,F1⟩:=h1 m (Nat.le_refl _)
    have hget:all[m]? = some all[m]:=List.getElem?_eq_getElem (by omega)
    obtain⟨ρ2,a2,w2,hle,h3,h4⟩:=N_ hG hih (List.all_eq_true.1 hall _ (List.getElem_mem (by omega))) F1 R1 (T.st m _ hget)
    refine⟨fun i=>if i<=m then ρs i else ρ2,fun i hi=> ?_,fun i hi=> ?_⟩
    · by_cases e:i<=m
      · simp only[e,if_true];exact h1 i e
      · have:i=m+1:=by omega
        subst this
        simp only[e,if_false]
        exact⟨a2,w2,h3,by rw[T.up m _ hget];exact h4⟩
    · by_cases e:i+1<=m
      · simp only[e,show i<=m by omega,if_true];exact h2 i (by omega)
      · have:i=m:=by omega
        subst this
        simp only[e,Nat.le_refl,if_true,if_false];exact hle
theorem IR {HH:Nat->GH} {m:Nat} (h1:∀i,i<m->(HH i).n<=(HH (i+1)).n) {i:Nat}:∀{j:Nat},i<=j->j<=m->(HH i).n<=(HH j).n
  | 0, h, _ => by
      have : i = 0 := by omega
      subst this;exact Nat.le_refl _
  | j + 1, h, hj => by
    by_cases e:i=j+1
    · subst e;exact Nat.le_refl _
    · exact Nat.le_trans (IR h1 (by omega) (by omega)) (h1 j (by omega))
theorem EL {ih:CH} {all:List Oper} {S:Nat->GF} {HH:Nat->GH} {gg:Nat->GV} (T:SL tb ih all all S HH gg) {t:Nat} {g:GV}:∀k,k<=all.length->AC (S k) t=some g->
  (∃i o,i<k∧all[i]? = some o∧o.dst=some t∧gg i=g∧∀j oj,i<j->j<k->all[j]? = some oj->oj.dst≠some t)∨((∀j oj,j<k->all[j]? = some oj->oj.dst≠some t)∧AC (S 0) t=some g)
 |0,_,h=> .inr ⟨fun j oj hj=>by omega,h⟩
 | k + 1, hk, h => by
  have hget:all[k]? = some all[k]:=List.getElem?_eq_getElem (by omega)
  rw[T.up k _ hget]at h
  have old:all[k].dst≠some t->AC (S k) t=some g->_:=fun hne h=>
   match EL T k (by omega) h with
   | .inl ⟨i, o, h1, h2, h3, h4, h5⟩ => (.inl ⟨i, o, by omega, h2, h3, h4, fun j oj hij hj hoj => by
     by_cases e:j=k
     ·subst e;rw[hget]at hoj;cases hoj;exact hne
     ·exact h5 j oj hij (by omega) hoj⟩:(∃i o,i<k+1∧all[i]? = some o∧o.dst=some t∧gg i=g∧∀j oj,i<j->j<k+1->all[j]? = some oj->oj.dst≠some t)∨((∀j oj,j<k+1->all[j]? = some oj->oj.dst≠some t)∧AC (S 0) t=some g))
   | .inr ⟨h1, h2⟩ => .inr ⟨fun j oj hj hoj => by
     by_cases e:j=k
     ·subst e;rw[hget]at hoj;cases hoj;exact hne
     ·exact h1 j oj (by omega) hoj,h2⟩
  cases hd:all[k].dst with
  |none=>
   rw[hd]at h
   exact old (by rw[hd];simp) h
  | some d =>
   rw[hd]at h
   have h:AC ((d,gg k)::S k) t=some g:=h
   rw[tX]at h
   by_cases e:t=d
   ·subst e
    rw[if_pos rfl]at h;cases h
    exact .inl ⟨k,_,by omega,hget,hd,rfl,fun j oj h1 h2=>by omega⟩
   ·rw[if_neg e]at h
    exact old (by rw[hd];intro e';cases e';exact e rfl) h
def mK (o:Op):Bool:=cZ o && !isFloat o
def Em (tb:TB) (x o:Op):Bool:=pureOp tb x||pureOp tb o||isFloat o||(!cZ x && !cZ o)||(kE x&&cZ o)||(cZ x&&kE o)
def chkF (tb:TB) (l:List Oper) (m:List Nat):Bool:=
 (List.range l.length).all fun i=>match l[i]? with
  |none=>false
  |some o=>
   (oI o).all (fun e=>Nat.blt e i&&before m i e&&(List.range i).all (fun k=> !before m e k||before m i k)) &&
   (List.range l.length).all (fun k=> !before m i k||(Nat.blt k i&&(oI o).any (fun e=>Nat.beq e k||before m e k))) &&
   !wD o.op &&
   (List.range i).all (fun x=>before m i x||(match l[x]? with|none=>false|some ox=>ox.apart l.toArray o&&Em tb ox.op o.op))
structure MS (tb:TB) (l:List Oper) (m:List Nat):Prop where
 edge:∀(i:Nat) (o:Oper),l[i]? = some o->∀e∈oI o,e<i∧before m i e=true
 trans:∀(i:Nat) (o:Oper),l[i]? = some o->∀k,before m i k=true->k<l.length->k<i∧∃e∈oI o,e=k∨before m e k=true
 ind:∀(i x:Nat) (oi ox:Oper),l[i]? = some oi->l[x]? = some ox->x<i->before m i x=false->ox.apart l.toArray oi=true∧Em tb ox.op oi.op=true
theorem Cc {l:List Oper} {m:List Nat} (h:chkF tb l m=true):MS tb l m:=by
 have key:∀(i:Nat) (o:Oper),l[i]? = some o->
   ((oI o).all (fun e=>Nat.blt e i&&before m i e&&(List.range i).all (fun k=> !before m e k||before m i k))=true)∧
   ((List.range l.length).all (fun k=> !before m i k||(Nat.blt k i&&(oI o).any (fun e=>Nat.beq e k||before m e k)))=true)∧wD o.op=false∧
   ((List.range i).all (fun x=>before m i x||(match l[x]? with|none=>false|some ox=>ox.apart l.toArray o&&Em tb ox.op o.op))=true):=by
  intro i o ho
  have:=List.all_eq_true.1 h i (List.mem_range.2 (aR ho))
  simp only[ho,Bool.and_eq_true,Bool.not_eq_true']at this
  exact⟨this.1.1.1,this.1.1.2,this.1.2,this.2⟩
 refine⟨?_,?_,?_⟩
 ·intro i o ho e he
  have:=List.all_eq_true.1 (key i o ho).1 e he
  simp only[Bool.and_eq_true,Nat.blt_eq]at this
  exact⟨this.1.1,this.1.2⟩
 ·intro i o ho k hk hlt
  have:=List.all_eq_true.1 (key i o ho).2.1 k (List.mem_range.2 hlt)
  simp only[hk,Bool.not_true,Bool.false_or,Bool.and_eq_true,Nat.blt_eq,List.any_eq_true,Bool.or_eq_true]at this
  obtain⟨h1,e,he,h2⟩:=this
  refine⟨h1,e,he,?_⟩
  rcases h2 with h2|h2
  ·exact .inl (Nat.eq_of_beq_eq_true h2)
  ·exact .inr h2
 ·intro i x oi ox hi hx hlt hb
  have:=(key i oi hi).2.2.2
  have:=List.all_eq_true.1 this x (List.mem_range.2 hlt)
  simp only[hb,Bool.false_or,hx,Bool.and_eq_true]at this
  exact this
theorem FL {ih:CH} (hG:dK P tb) {all:List Oper} {n:Nat} {o:Oper} {σ:GF} {H H':GH} {g:GV} {ρ:cS} {a:Act} (hf:isFloat o.op=true) (F:iA ρ n σ a) (h:AB tb ih all o σ H=some (g,H')):
  (Region.wanted o (yielded all.toArray a.tmps)=false∧g = .un∧H'=H)∨
  (Region.wanted o (yielded all.toArray a.tmps)=true∧∃cs a' T',H'=H.new (.cells cs)∧LP ρ cs a'∧cs.length=a'.size∧∀w:World,∃V,(execOp a.eval o).run P w = .ok (.value V) (w.alloc (.cells a' T'))∧∀ρ':cS,ρ' H.n=some ⟨w.heap.size,0,a'.size,.cells a' T',.cells cs⟩->Rl ρ' g V):=by
 rcases Ab F h with⟨hw,hg⟩|h
 ·refine .inr ⟨hw,?_⟩
  obtain⟨d,op,ty,pos,aft,gd⟩:=o
  cases op with
  |buildSlice T m ps=>
   obtain⟨vs,hvs,hg⟩:=aB.1 (show ob (oQ σ ps.toList) _=some (g,H')from hg)
   obtain⟨g',H'',hg,hk⟩:=jM hg
   cases hk
   obtain⟨cs,a',T',len,sz,h1,h2,h3,h4,h5⟩:=IU (P:=P) hG (wC F hvs) hg
   refine⟨cs,a',T',h1,h3,h4,fun w=> ?_⟩
   obtain⟨V,hr,hv⟩:=h5 w
   refine⟨V,?_,hv⟩
   have e:(ps.toList.map fun p=>(p.1,a.eval p.2)).toArray=ps.map fun p=>(p.1,a.eval p.2):=by apply Array.toList_inj.1;simp
   rw[e]at hr
   simp[execOp,hr]
  |alloc T=>
   obtain⟨g',H'',hg,hk⟩:=jM (show aL (bY tb T H) sJ=some (g,H')from hg)
   cases hk
   obtain⟨zc,hz,hg⟩:=aB.1 (show ob (vR tb T) _=some (g,H')from hg)
   rw[gY]at hg;cases hg
   obtain⟨d,hd,hT,hC⟩:=qJ (ρ:=ρ) hG hz
   refine⟨zc,d.zero.cells,T,rfl,hC,by have:=hC.r.len;simpa using this,fun w=>⟨_,?_,fun ρ' hρ=> .ptr (l:=⟨w.heap.size,0,d.zero.cells.size,.cells d.zero.cells T,.cells zc⟩) 0 hρ⟩⟩
   simp[execOp,Cv w hT]
  |box T x=>
   obtain⟨v,hv,hg⟩:=aB.1 (show ob (gN σ x) (fun v=>aL (lV v H) sJ)=some (g,H')from hg)
   obtain⟨g',H'',hg,hk⟩:=jM hg
   cases hk
   obtain⟨vc,hc,hg⟩:=aB.1 (show ob v.cells _=some (g,H')from hg)
   rw[gY]at hg;cases hg
   obtain⟨vs,e,hr,h1⟩:=(bS F hv).cells hc
   refine⟨vc,(a.eval x).cells,T,rfl,by rw[e];exact⟨hr,h1⟩,by rw[e];have:=hr.len;simpa using this,fun w=>⟨_,?_,fun ρ' hρ=> .ptr (l:=⟨w.heap.size,0,(a.eval x).cells.size,.cells (a.eval x).cells T,.cells vc⟩) 0 hρ⟩⟩
   simp[execOp,Instr.box,newVar,newRow]
  |_=>cases hf
 ·exact .inl h
end
end
end Go.Gx
end
