/- Models and proofs. Conditions: none. -/
import Derived.Test.YtemmagadjnlajaaGreatDoorZCPr9
import Derived.Lib.Strings
import Derived.Laws.CopyRow
import Derived.Laws.StructEq
set_option linter.unusedVariables false
set_option linter.unusedSimpArgs false
set_option maxHeartbeats 4000000
set_option maxRecDepth 20000
open Go.Proofs.Tryz
namespace Go.Gx
open Go Go.Sx
section
variable {α β:Type}
theorem aH {o:V1 α} {f:α->V1 β} {r:β}:ob o f=some r↔∃x,o=some x/\f x=some r:=by
 cases o<;>simp[ob]
theorem bZ {b:V4} {x:V1 α} {r:α}:(bif b then x else none)=some r↔b=true/\x=some r:=by
 cases b<;>simp
theorem qM {b:V4} {x:V1 α} {r:α}:(bif b then none else x)=some r↔b=false/\x=some r:=by
 cases b<;>simp
theorem FK (n:Nat) (f:Nat->α):sn n f=f n:=by cases n<;>rfl
theorem aaF (z:Int) (f:Int->α):fi z f=f z:=by cases z<;>simp[fi,FK]
theorem Ab (l:V6 α):∀n,LK l n=l[n]?:=by
 induction l with
 |nil=>intro n;rfl
 |cons x l a=>intro n;cases n with
  |zero=>rfl
  |succ n=>exact a n
theorem aeo {v:α}:∀{l a:V6 α} {n:Nat},aen v l n=some a->n<l.length/\a=l.set n v:=by
 intro l
 induction l with
 |nil=>intro a n h;cases h
 | cons x l ih =>intro a n h; cases n with
  |zero=>cases h;simp
  |succ n=>
   have⟨r,b,c⟩:=aH.1 (show ob (aen v l n) (λf=>some (x::f))=some a from h);have⟨d,e⟩:=ih b;cases c;simp[d,e]
theorem ajW:∀{l r:V6 α} {n:Nat},tk l n=some r->n<=l.length/\r=l.take n:=by
 intro l
 induction l with
 |nil=>intro r n h;cases n with
  |zero=>cases h;simp
  |succ n=>cases h
 | cons x l ih =>intro r n h; cases n with
  |zero=>cases h;simp
  |succ n=>
   have⟨q,a,b⟩:=aH.1 (show ob (tk l n) (λr=>some (x::r))=some r from h);have⟨c,d⟩:=ih a;cases b;simp[c,d]
theorem aiW:∀{l r:V6 α} {n:Nat},dp l n=some r->n<=l.length/\r=l.drop n:=by
 intro l
 induction l with
 |nil=>intro r n h;cases n with
  |zero=>cases h;simp
  |succ n=>cases h
 |cons x l a=>intro r n h;cases n with
  |zero=>cases h;simp
  |succ n=>have:=a (show dp l n=some r from h);simpa using this
theorem Sk {l r:V6 α} {o n:Nat} (h:slc l o n=some r):o+n<=l.length/\r=(l.drop o).take n:=by
 have⟨q,a,b⟩:=aH.1 h;obtain⟨d,rfl⟩:=aiW a;obtain⟨c,rfl⟩:=ajW b;simp at c;exact⟨V7,rfl⟩
def wr (b:List α) (o:Nat) (a:List α):List α:=a.take o++b++a.drop (o+b.length)
end
theorem NL:∀{b c a:V6 GV} {o:Nat},KU b o c=some a->(b≠[]->o+b.length<=c.length)/\a.length=c.length/\∀i,a[i]?=if o<=i/\i<o+b.length then b[i - o]? else c[i]?:=by
 intro b
 induction b with
 |nil=>
  intro c a o h;cases h;refine⟨λh=>absurd Z h,rfl,λi=>?_⟩
  rw[if_neg V8]
 | cons v b ih =>
  intro c a o h;have⟨p,l,f⟩:=aH.1 (show ob (aen v c o) (λa=>sn (Nat.succ o) λn=>KU b n a)=some a from h);rw[FK]at f;obtain⟨m,rfl⟩:=aeo l;have⟨g,j,k⟩:=ih f;simp only[zAb,Nat.succ_eq_add_one]at g j k;refine⟨λ_=>?_,j,λi=>?_⟩
  .cases b with
   |nil=>simp;omega
   |cons y q=>have:=g V8;simp at this ⊢;omega
  rw[k i];by_cases e:i=o
  .subst e;rw[Q0,if_pos V8,zAh m];simp
  .by_cases d:o+1<=i/\i<o+1+b.length
   .rw[if_pos d,if_pos Q1];have:i - o=(i - (o+1))+1:=V7
    rw[this,List.getElem?_cons_succ]
   .rw[if_neg d,if_neg Q1,zAu (Ne.symm e)]
theorem Tq {j:Type} (x:V1 j):∀(f n m:Nat),n<f->(HK x f n).get m=if m=n then x else none:=by
 intro f
 induction f with
 |zero=>intro n m h;omega
 | succ f ih =>
  intro n m h;show Tr.get (bif Nat.beq n 0 then .nd x .lf .lf else bif Nat.beq (Nat.mod n 2) 1 then .nd none (HK x f (Nat.div n 2)) .lf else .nd none .lf (HK x f (Nat.sub (Nat.div n 2) 1))) m=_;have p:∀(a:V1 j) (l r:Tr j),Tr.get (.nd a l r) m=if m=0 then a else if m%2=1 then l.get (m / 2)else r.get (m / 2 - 1):=λa l r=>by
   show Bool.casesOn (motive:=λ_=>V1 j) (Nat.beq m 0) (Bool.casesOn (motive:=λ_=>V1 j) (Nat.beq (Nat.mod m 2) 1) (r.get (Nat.sub (Nat.div m 2) 1)) (l.get (Nat.div m 2))) a=_;by_cases i:m=0
   .subst i;rfl
   .rw[if_neg i,qT i];by_cases b:m%2=1
    .rw[if_pos b];have:Nat.beq (Nat.mod m 2) 1=true:=by rw[show Nat.mod m 2=1 from b];rfl
     rw[this];rfl
    .rw[if_neg b];have:Nat.beq (Nat.mod m 2) 1=false:=qT b;rw[this];rfl
  have d:∀k,(Tr.lf:Tr j).get k=none:=λ_=>rfl;have q:Nat.div n 2=n / 2:=rfl;have s:Nat.sub (Nat.div n 2) 1=n / 2 - 1:=rfl;by_cases i:n=0
  .subst i;show Tr.get (.nd x .lf .lf) m=_;simp only[p,d];by_cases g:m=0<;>simp[g]
  .rw[qT i];by_cases b:n%2=1
   .have:Nat.beq (Nat.mod n 2) 1=true:=by rw[show Nat.mod n 2=1 from b];rfl
    simp only[this,cond_true,cond_false,p,d,q];rw[ih _ _ V7];by_cases g:m=0
    .rw[if_pos g,Q0]
    .rw[if_neg g];by_cases c:m%2=1
     .rw[if_pos c];by_cases o:m=n
      .subst o;simp
      .rw[if_neg o,Q0]
     .rw[if_neg c,if_neg (by intro e;subst e;exact c b)]
   .have:Nat.beq (Nat.mod n 2) 1=false:=qT b;simp only[this,cond_true,cond_false,p,d,s];rw[ih _ _ V7];by_cases g:m=0
    .rw[if_pos g,Q0]
    .rw[if_neg g];by_cases c:m%2=1
     .rw[if_pos c,if_neg (by intro e;subst e;exact b c)]
     .rw[if_neg c];by_cases o:m=n
      .subst o;simp
      .rw[if_neg o,Q0]
theorem CY {f:Type} (x:V1 f):∀(t:Tr f) (n m:Nat),(t.set x n).get m=if m=n then x else t.get m:=by
 intro t
 induction t with
 |lf=>intro n m;exact Tq x _ n m (Nat.lt_succ_self n)
 | nd a l r ihl ihr =>
  intro n m;have h:∀(a:V1 f) (l r:Tr f),Tr.get (.nd a l r) m=if m=0 then a else if m%2=1 then l.get (m / 2)else r.get (m / 2 - 1):=λa l r=>by
   show Bool.casesOn (motive:=λ_=>V1 f) (Nat.beq m 0) (Bool.casesOn (motive:=λ_=>V1 f) (Nat.beq (Nat.mod m 2) 1) (r.get (Nat.sub (Nat.div m 2) 1)) (l.get (Nat.div m 2))) a=_;by_cases g:m=0
   .subst g;rfl
   .rw[if_neg g,qT g];by_cases d:m%2=1
    .rw[if_pos d];have:Nat.beq (Nat.mod m 2) 1=true:=by rw[show Nat.mod m 2=1 from d];rfl
     rw[this];rfl
    .rw[if_neg d];have:Nat.beq (Nat.mod m 2) 1=false:=qT d;rw[this];rfl
  show Tr.get (Bool.casesOn (motive:=λ_=>Tr f) (Nat.beq n 0) (Bool.casesOn (motive:=λ_=>Tr f) (Nat.beq (Nat.mod n 2) 1) (.nd a l (r.set x (Nat.sub (Nat.div n 2) 1))) (.nd a (l.set x (Nat.div n 2)) r)) (.nd x l r)) m=_;have j:Nat.div n 2=n / 2:=rfl;have k:Nat.sub (Nat.div n 2) 1=n / 2 - 1:=rfl;by_cases g:n=0
  .subst g;show Tr.get (.nd x l r) m=_;rw[h,h];by_cases c:m=0<;>simp[c]
  .rw[qT g];by_cases d:n%2=1
   .have:Nat.beq (Nat.mod n 2) 1=true:=by rw[show Nat.mod n 2=1 from d];rfl
    rw[this];show Tr.get (.nd a (l.set x (Nat.div n 2)) r) m=_;rw[h,h,ihl,j];by_cases c:m=0
    .rw[if_pos c,if_pos c,Q0]
    .rw[if_neg c,if_neg c];by_cases b:m%2=1
     .rw[if_pos b,if_pos b];by_cases i:m=n
      .subst i;simp
      .rw[if_neg i,Q0]
     .rw[if_neg b,if_neg b,if_neg (by intro e;subst e;exact b d)]
   .have:Nat.beq (Nat.mod n 2) 1=false:=qT d;rw[this];show Tr.get (.nd a l (r.set x (Nat.sub (Nat.div n 2) 1))) m=_;rw[h,h,ihr,k];by_cases c:m=0
    .rw[if_pos c,if_pos c,Q0]
    .rw[if_neg c,if_neg c];by_cases b:m%2=1
     .rw[if_pos b,if_pos b,if_neg (by intro e;subst e;exact d b)]
     .rw[if_neg b,if_neg b];by_cases i:m=n
      .subst i;simp
      .rw[if_neg i,Q0]
theorem xC (H:GH) (h:Nat) (o:GO) (k:Nat):(H.set h o).get k=if k=h then some o else H.get k:=by
 unfold GH.get GH.set;rw[CY];by_cases e:k=h<;>simp[e,ob]
theorem UZ (H:GH) (h:Nat) (o:GO) (k:Nat):(H.set h o).ver k=if k=h then some H.n else H.ver k:=by
 unfold GH.ver GH.set;rw[CY];by_cases e:k=h<;>simp[e,ob]
theorem Kj (H:GH) (h k:Nat):(H.del h).get k=if k=h then none else H.get k:=by
 unfold GH.get GH.del;rw[CY];by_cases e:k=h<;>simp[e,ob]
theorem UX (H:GH) (h k:Nat):(H.del h).ver k=if k=h then none else H.ver k:=by
 unfold GH.ver GH.del;rw[CY];by_cases e:k=h<;>simp[e,ob]
noncomputable def GH.new (H:GH) (o:GO):GH:=⟨H.n+1,H.t.set (some (H.n,o)) H.n⟩
theorem xB (H:GH) (o:GO) (k:Nat):(H.new o).get k=if k=H.n then some o else H.get k:=by
 unfold GH.get GH.new;rw[CY];by_cases e:k=H.n<;>simp[e,ob]
theorem UY (H:GH) (o:GO) (k:Nat):(H.new o).ver k=if k=H.n then some H.n else H.ver k:=by
 unfold GH.ver GH.new;rw[CY];by_cases e:k=H.n<;>simp[e,ob]
theorem Ts {b R:Type} (x:V1 b):∀(f n:Nat) (k:Tr b->R),KO x f n k=k (HK x f n):=by
 intro f
 induction f with
 |zero=>intro n k;rfl
 |succ f a=>
  intro n k;show Bool.casesOn (motive:=λ_=>R) (Nat.beq n 0) (Bool.casesOn (motive:=λ_=>R) (Nat.beq (Nat.mod n 2) 1) (KO x f (Nat.sub (Nat.div n 2) 1) λt=>k (.nd none .lf t)) (KO x f (Nat.div n 2) λt=>k (.nd none t .lf))) (k (.nd x .lf .lf))=k (bif Nat.beq n 0 then .nd x .lf .lf else bif Nat.beq (Nat.mod n 2) 1 then .nd none (HK x f (Nat.div n 2)) .lf else .nd none .lf (HK x f (Nat.sub (Nat.div n 2) 1)));rw[a,a];cases Nat.beq n 0<;>cases Nat.beq (Nat.mod n 2) 1<;>rfl
theorem Km {b R:Type} (x:V1 b):∀(t:Tr b) (n:Nat) (k:Tr b->R),t.setK x n k=k (t.set x n):=by
 intro t
 induction t with
 |lf=>intro n k;exact Ts x (Nat.succ n) n k
 |nd a l r c d=>
  intro n k;show Bool.casesOn (motive:=λ_=>R) (Nat.beq n 0) (Bool.casesOn (motive:=λ_=>R) (Nat.beq (Nat.mod n 2) 1) (r.setK x (Nat.sub (Nat.div n 2) 1) λt=>k (.nd a l t)) (l.setK x (Nat.div n 2) λt=>k (.nd a t r))) (k (.nd x l r))=k (Bool.casesOn (motive:=λ_=>Tr b) (Nat.beq n 0) (Bool.casesOn (motive:=λ_=>Tr b) (Nat.beq (Nat.mod n 2) 1) (.nd a l (r.set x (Nat.sub (Nat.div n 2) 1))) (.nd a (l.set x (Nat.div n 2)) r)) (.nd x l r));rw[c,d];cases Nat.beq n 0<;>cases Nat.beq (Nat.mod n 2) 1<;>rfl
theorem mR {a:Type} (H:GH) (o:GO) (f:Nat->GH->a):H.newK o f=f H.n (H.new o):=by simp only[GH.newK,FK,Km];rfl
theorem CW {a:Type} (H:GH) (h:Nat) (o:GO) (f:GH->a):H.setK h o f=f (H.set h o):=by simp only[GH.setK,FK,Km];rfl
theorem Ki {a:Type} (H:GH) (h:Nat) (f:GH->a):H.delK h f=f (H.del h):=by simp only[GH.delK,Km];rfl
theorem ahv {R:Type} (a b:V6 GV):∀k:V6 GV->R,lap a b k=k (a++b):=by
 induction a with
 |nil=>intro k;rfl
 |cons x a c=>intro k;exact c _
theorem aaE {R:Type} (a:V6 GV):∀k:V6 GV->R,fc a k=k a:=by
 induction a with
 |nil=>intro k;rfl
 |cons x a b=>intro k;exact b _
theorem aay (H:GH) (v:GV) (f:GH->OR):aax H v f=f (Vu H v):=by
 unfold aax Vu;cases v.asS with
 |none=>rfl
 |some s=>exact Ki H s.1 f
theorem lO {H:GH} {h:Nat} {a:V6 GV}:H.cells h=some a↔H.get h=some (.cells a):=by
 unfold GH.cells;rw[aH];constructor
 .rintro⟨o,d,b⟩;cases o with
  |cells c=>cases b;exact d
  |mp e=>cases b
 .intro h;exact⟨_,h,rfl⟩
theorem GO.asM_eq {o:GO} {a:V6 (GV×GV)} (h:o.asM=some a):o = .mp a:=by
 cases o with
 |cells c=>cases h
 |mp e=>cases h;rfl
theorem Fx (k:Nat) (v:GV) (σ:GF) (t:Nat):JJ ((k,v)::σ) t=if t=k then some v else JJ σ t:=by
 show Bool.casesOn (motive:=λ_=>V1 GV) (Nat.beq t k) (JJ σ t) (some v)=_;by_cases e:t=k
 .subst e;simp
 .rw[qT e,if_neg e]
section
variable {v:GV}
theorem qE {p:IntKind×Int} (h:v.asI=some p):v = .int p.1 p.2:=by cases v<;>cases h;rfl
theorem IJ {p:V4} (h:v.asB=some p):v = .bool p:=by cases v<;>cases h;rfl
theorem IK {p:Nat×Nat} (h:v.asP=some p):v = .ptr p.1 p.2:=by cases v<;>cases h;rfl
theorem GN {p:Nat×Nat×Nat×Nat} (h:v.asS=some p):v = .sl p.1 p.2.1 p.2.2.1 p.2.2.2:=by cases v<;>cases h;rfl
theorem ZX {p:Nat×V6 GV×V6 GV} (h:v.asF=some p):v = .fn p.1 p.2.1 p.2.2:=by cases v<;>cases h;rfl
theorem afY {p:V6 GV} (h:v.asT=some p):v = .tup p:=by cases v<;>cases h;rfl
theorem Ri {p:V6 GV} (h:v.asA=some p):v = .agg p:=by cases v<;>cases h;rfl
theorem xI {p:Nat×Nat} (h:v.asStr=some p):v = .str p.1 p.2:=by cases v<;>cases h;rfl
theorem asM_eq {p:Nat} (h:v.asM=some p):v = .map p:=by cases v<;>cases h;rfl
theorem Bu (h:v.isSnil=true):v = .snil:=by cases v<;>first|rfl|cases h
end
section
variable {d:TypeDesc}
theorem KD {e:V9} (h:tdS d=some e):d = .slice e:=by cases d<;>cases h;rfl
theorem Wl {e:Nat×V9} (h:tdA d=some e):d = .array e.1 e.2:=by cases d<;>cases h;rfl
theorem Sy {e:Array Field} (h:tdF d=some e):d = .struct e:=by cases d<;>cases h;rfl
theorem KC {e:IntKind} (h:tdI d=some e):d = .int e:=by cases d<;>cases h;rfl
theorem aij {e:V9×V9} (h:tdM d=some e):d = .map e.1 e.2:=by cases d<;>cases h;rfl
theorem FU (h:Nb d=true):d = .string:=by cases d<;>first|rfl|cases h
theorem Wm (h:tdB d=true):d = .bool:=by cases d<;>first|rfl|cases h
end
theorem Ko {a:Int} {n:Nat} (h:asN a=some n):a=n:=by cases a<;>cases h;rfl
theorem aiL {b:V4} {p:Prop} [Decidable p] (h:b=true↔p):b=decide p:=by
 cases b
 .exact(zA6 λa=>by cases h.2 a).symm
 .exact(zAc (h.1 Z)).symm
theorem Mn (a b:Int):ltI a b=decide (a<b):=by
  refine aiL ?_;cases a with
  | ofNat a =>cases b with
    |ofNat b=>show Nat.blt a b=true↔_;rw[zAp];simp
    | negSucc b =>
        constructor
        · intro h;cases h
        · intro h;simp at h;omega
  | negSucc a =>cases b with
    | ofNat b =>
        constructor
        · intro _;have:=Int.negSucc_lt_zero a;simp;omega
        · intro _;rfl
    |negSucc b=>show Nat.blt b a=true↔_;rw[zAp];omega
theorem Mh (a b:Int):eqI a b=decide (a=b):=by
  refine aiL ?_;cases a with
  | ofNat a =>cases b with
    |ofNat b=>show Nat.beq a b=true↔_;simp;omega
    | negSucc b =>
        constructor
        · intro h;cases h
        · intro h;cases h
  | negSucc a =>cases b with
    | ofNat b =>
        constructor
        · intro h;cases h
        · intro h;cases h
    |negSucc b=>show Nat.beq a b=true↔_;simp
theorem Kq (a b:V4):Xk a b=(a==b):=by cases a<;>cases b<;>rfl
theorem Mi {a b:IntKind} (h:eqK a b=true):a=b:=of_decide_eq_true h
theorem Ou (b:V4):fb b=some (.bool b):=by cases b<;>rfl
end Go.Gx
namespace Go.Gx
open Go Go.Sx Go.RowKit
structure UO where
 b:Nat
 off:Nat
 size:Nat
 x:Obj
 /-- what the evaluator wrote -/
 o:GO
abbrev iP:=Nat->V1 UO
def iP.le (b a:iP):Prop:=∀h l,b h=some l->a h=some l
theorem iP.le_refl (ρ:iP):ρ.le ρ:=λ_ _ h=>h
theorem iP.le_trans {a b c:iP} (h:a.le b) (k:b.le c):a.le c:=λ_ _ x=>k _ _ (h _ _ x)
inductive Rl (ρ:iP):GV->V0->Prop
 |int (k n):Rl ρ (.int k n) (.int k n)
 |bool (b):Rl ρ (.bool b) (.bool b)
 |str (s:ByteArray):Rl ρ (.str (qO (cE s)) (cE s).length) (.string s)
 |ptr {h l} (off) (hl:ρ h=some l):Rl ρ (.ptr h off) (.pointer (some ⟨l.b,l.off+off,none⟩))
 |pnil:Rl ρ .pnil (.pointer none)
 |sl {h l off len sz cap} {A:Addr} (hl:ρ h=some l) (hc:len<=cap) (ha:cap=0\/(A=⟨l.b,l.off+off,none⟩/\l.off+off+cap*sz<=l.size)):Rl ρ (.sl h off len sz) (.slice (some A) len cap)
 |snil:Rl ρ .snil (.slice none 0 0)
 |map {h l} (hl:ρ h=some l):Rl ρ (.map h) (.map (some l.b))
 | fn {us vs : List GV} {us' vs' : oA} (f) (h1 : us.length = us'.length) (h2 : ∀ (i : Nat) g v, us[i]?=some g → us'[i]?=some v → Rl ρ g v) (h3 : vs.length = vs'.length) (h4 : ∀ (i : Nat) g v, vs[i]?=some g → vs'[i]?=some v → Rl ρ g v) :
   Rl ρ (.fn f us vs) (.func (.func f) us'.toArray vs'.toArray)
 |fnil:Rl ρ .fnil .nilFunc
 |inil:Rl ρ .inil .nilIface
 |agg {cs:List GV} {vs:oA} (h1:cs.length=vs.length) (h2:∀(i:Nat) g v,cs[i]?=some g->vs[i]?=some v->Rl ρ g v) (h3:∀v∈vs,one v=true):Rl ρ (.agg cs) (.agg vs.toArray)
 |tup {cs:List GV} {vs:oA} (h1:cs.length=vs.length) (h2:∀(i:Nat) g v,cs[i]?=some g->vs[i]?=some v->Rl ρ g v):Rl ρ (.tup cs) (.tuple vs.toArray)
 |un:Rl ρ .un undef
 |bad (v):Rl ρ .bad v
 |opn {h l} (v) (hl:ρ h=some l) (hx:l.x = .cells #[v] 0 (0,0)):Rl ρ (.opn h) v
theorem Rl.le {p c:iP} (d:p.le c) {g:GV} {v:V0} (h:Rl p g v):Rl c g v:=by
 induction h with
 |int k n=>exact .int k n
 |bool b=>exact .bool b
 |str s=>exact .str s
 |ptr m h=>exact .ptr m (d _ _ h)
 |pnil=>exact .pnil
 |sl h r q=>exact .sl (d _ _ h) r q
 |snil=>exact .snil
 |map h=>exact .map (d _ _ h)
 |fn f a o e u j l=>exact .fn f a j e l
 |fnil=>exact .fnil
 |inil=>exact .inil
 |agg a o e i=>exact .agg a i e
 |tup a o i=>exact .tup a i
 |un=>exact .un
 |bad v=>exact .bad v
 |opn v h t=>exact .opn v (d _ _ h) t
structure zX (ρ:iP) (gs:List GV) (vs:oA):Prop where
 len:gs.length=vs.length
 at':∀(i:Nat) g v,gs[i]?=some g->vs[i]?=some v->Rl ρ g v
theorem zX.nil {ρ:iP}:zX ρ [] []:=⟨rfl,λi g v h=>by simp at h⟩
theorem zX.cons {ρ:iP} {g:GV} {v:V0} {e:V6 GV} {vs:oA} (h:Rl ρ g v) (r:zX ρ e vs):zX ρ (g::e) (v::vs):=⟨by simp[r.len],λi a b c d=>by
 cases i with
 |zero=>simp at c d;subst c d;exact h
 |succ i=>simp at c d;exact r.at' i a b c d⟩
theorem zX.of_cons {e:iP} {g:GV} {f:V6 GV} {c:oA} (h:zX e (g::f) c):∃v d,c=v::d/\Rl e g v/\zX e f d:=by
 cases c with
 |nil=>have:=h.len;simp at this
 |cons v c=>exact⟨v,c,rfl,h.at' 0 _ _ Z Z,by have:=h.len;simpa using this,λi a b j k=>h.at' (i+1) a b (by simpa using j) (by simpa using k)⟩
theorem zX.of_nil {b:iP} {a:oA} (h:zX b [] a):a=[]:=zAl h.len.symm
theorem zX.le {d a:iP} (j:d.le a) {b:V6 GV} {c:oA} (h:zX d b c):zX a b c:=⟨h.len,λi g v e f=>(h.at' i g v e f).le j⟩
theorem zX.append {ρ:iP} {c a:V6 GV} {d b:oA} (h:zX ρ c d) (k:zX ρ a b):zX ρ (c++a) (d++b):=by
 induction c generalizing d with
 |nil=>rw[h.of_nil];exact k
 |cons g c i=>obtain⟨v,d,rfl,e,f⟩:=h.of_cons;exact .cons e (i f)
theorem zX.get {ρ:iP} {b:V6 GV} {a:oA} (h:zX ρ b a) {i:Nat} {g:GV} (c:b[i]?=some g):∃v,a[i]?=some v/\Rl ρ g v:=by
 have d:=bM c;have:i<a.length:=h.len▸d;exact⟨a[i],zA1 this,h.at' i g _ c (zA1 this)⟩
theorem zX.sub {ρ:iP} {c:V6 GV} {d:oA} (h:zX ρ c d) (o n:Nat):zX ρ ((c.drop o).take n) ((d.drop o).take n):=
 ⟨by simp[h.len],λi g v a b=>by
  rw[zAn]at a b;split at a
  .rename_i e;rw[if_pos e]at b;rw[zAq]at a b;exact h.at' _ g v a b
  .cases a⟩
section
variable {ρ:iP} {V:V0}
theorem Rl.int_inv {k:IntKind} {n:Int} (h:Rl ρ (.int k n) V):V = .int k n:=by cases h;rfl
theorem Rl.bool_inv {b:V4} (h:Rl ρ (.bool b) V):V = .bool b:=by cases h;rfl
theorem Rl.str_inv {n l:Nat} (h:Rl ρ (.str n l) V):∃s,V = .string s/\n=qO (cE s)/\l=(cE s).length:=by cases h;exact⟨_,rfl,rfl,rfl⟩
theorem Rl.ptr_inv {h o:Nat} (x:Rl ρ (.ptr h o) V):∃l,ρ h=some l/\V = .pointer (some ⟨l.b,l.off+o,none⟩):=by cases x with|ptr o a=>exact⟨_,a,rfl⟩
theorem Rl.sl_inv {h o n a:Nat} (x:Rl ρ (.sl h o n a) V):∃l cap A,ρ h=some l/\V = .slice (some A) n cap/\n<=cap/\(cap=0\/(A=⟨l.b,l.off+o,none⟩/\l.off+o+cap*a<=l.size)):=by
 cases x with|sl e d c=>exact⟨_,_,_,e,rfl,d,c⟩
theorem Rl.snil_inv (h:Rl ρ .snil V):V = .slice none 0 0:=by cases h;rfl
theorem Rl.map_inv {h:Nat} (x:Rl ρ (.map h) V):∃l,ρ h=some l/\V = .map (some l.b):=by cases x with|map a=>exact⟨_,a,rfl⟩
theorem Rl.fn_inv {f:Nat} {c d:V6 GV} (x:Rl ρ (.fn f c d) V):∃a b,V = .func (.func f) a.toArray b.toArray/\zX ρ c a/\zX ρ d b:=by
 cases x with|fn f e g h i=>exact⟨_,_,rfl,⟨e,g⟩,⟨h,i⟩⟩
theorem Rl.agg_inv {b:V6 GV} (x:Rl ρ (.agg b) V):∃a,V = .agg a.toArray/\zX ρ b a/\∀v∈a,one v=true:=by
 cases x with|agg c d e=>exact⟨_,rfl,⟨c,d⟩,e⟩
theorem Rl.tup_inv {a:V6 GV} (x:Rl ρ (.tup a) V):∃b,V = .tuple b.toArray/\zX ρ a b:=by
 cases x with|tup c d=>exact⟨_,rfl,⟨c,d⟩⟩
theorem Rl.opn_inv {h:Nat} (x:Rl ρ (.opn h) V):∃l,ρ h=some l/\l.x = .cells #[V] 0 (0,0):=by cases x with|opn v a b=>exact⟨_,a,b⟩
theorem Rl.un_inv (x:Rl ρ .un V):V=undef:=by cases x;rfl
theorem Rl.fn' {f:Nat} {e g:V6 GV} {a b:V6 V0} (c:zX ρ e a) (d:zX ρ g b):Rl ρ (.fn f e g) (.func (.func f) a.toArray b.toArray):= .fn f c.len c.at' d.len d.at'
theorem Nu {b:V6 GV} {a:V6 V0} (h:zX ρ b a) (c:∀v∈a,one v=true):Rl ρ (.agg b) (.agg a.toArray):= .agg h.len h.at' c
theorem Nv {a:V6 GV} {b:V6 V0} (h:zX ρ a b):Rl ρ (.tup a) (.tuple b.toArray):= .tup h.len h.at'
theorem Rl.cells {g:GV} {cs:V6 GV} (h:Rl ρ g V) (a:g.cells=some cs):∃vs,V.cells=vs.toArray/\zX ρ cs vs/\∀v∈vs,one v=true:=by
 have b:∀g V,Rl ρ g V->one V=true->∃vs,#[V]=vs.toArray/\zX ρ [g] vs/\∀v∈vs,one v=true:=λg V h c=>⟨[V],rfl,.cons h .nil,λv e=>by simp at e;subst e;exact c⟩
 have f:=h;cases h with
 |agg c d i=>cases a;exact⟨_,rfl,⟨c,d⟩,i⟩
 |tup c d=>cases a
 |un=>cases a
 |bad v=>cases a
 |opn v j k=>cases a
 |_=>cases a;exact b _ _ f Z
end
theorem Sa {ρ:iP} {v:V0} {g:GV} (h:YV v=some g):Rl ρ g v/\one v=true:=by
 unfold YV at h;split at h
 .cases h;exact⟨.int _ _,rfl⟩
 .cases h;exact⟨.bool _,rfl⟩
 .cases h;exact⟨.snil,rfl⟩
 .cases h;exact⟨.pnil,rfl⟩
 .cases h;exact⟨.fnil,rfl⟩
 .cases h;exact⟨.inil,rfl⟩
 .simp only[FK]at h;cases h;exact⟨.str _,rfl⟩
 .cases h
theorem XF {ρ:iP}:∀{f:V6 V0} {e:V6 GV},aeq f=some e->zX ρ e f/\∀v∈f,one v=true
 | [],e,h=>by cases h;exact⟨.nil,λv h=>by simp at h⟩
 | v :: f, e, h =>by
  obtain⟨x,j,k⟩:=aH.1 (show ob (YV v) (λx=>ob (aeq f) λi=>some (x::i))=some e from h);obtain⟨i,l,m⟩:=aH.1 k;cases m;obtain⟨a,b⟩:=XF l;obtain⟨c,d⟩:=Sa (ρ:=ρ) j;exact⟨.cons c a,λu g=>by
   rcases zAi.1 g with rfl|g
   .exact d
   .exact b u g⟩
theorem VV {ρ:iP} {v:V0} {g:GV} (h:ofV v=some g):Rl ρ g v:=by
 unfold ofV at h;split at h
 .have⟨e,c,d⟩:=aH.1 h;cases d;have⟨a,b⟩:=XF (ρ:=ρ) c;have:=Nu a b;simpa using this
 .exact(Sa h).1
theorem XP {ρ:iP} {s:Sem V0} {g:GV} (h:Mv s=some g):∃v,Rl ρ g v/\s = .pure v:=by
 unfold Mv at h;split at h
 .exact⟨_,(Sa h).1,rfl⟩
 .cases h
structure oK (ρ:iP) (n:Nat) (σ:GF) (a:Act):Prop where
 defers:a.defers=[]
 size:a.tmps.size=n
 slot:∀t g,JJ σ t=some g->Rl ρ g (a.eval (.tmp t))
theorem oK.le {c b:iP} (f:c.le b) {n:Nat} {d:GF} {a:Act} (h:oK c n d a):oK b n d a:=⟨h.defers,h.size,λt g e=>(h.slot t g e).le f⟩
theorem oK.put {c:iP} {n:Nat} {f:GF} {a:Act} (h:oK c n f a) {d:Nat} (i:d<n) {g:GV} {v:V0} (j:Rl c g v):oK c n ((d,g)::f) (a.put (some d) v):=
 ⟨h.defers,by simp[Act.put,h.size],λt u b=>by
  rw[Fx]at b;by_cases e:t=d
  .subst e;rw[if_pos Z]at b;cases b;have:(a.put (some t) v).eval (.tmp t)=v:=by simp[Act.put,Act.eval,h.size,i]
   rw[this];exact j
  .rw[if_neg e]at b;have:(a.put (some d) v).eval (.tmp t)=a.eval (.tmp t):=by
    simp only[Act.put,Act.eval,Array.getD_eq_getD_getElem?];rw[zAv (Ne.symm e)]
   rw[this];exact h.slot t u b⟩
section
variable {ρ:iP} {n:Nat} {σ:GF} {a:Act}
theorem dQ (F:oK ρ n σ a) {x:V3} {g:GV} (h:nK σ x=some g):Rl ρ g (a.eval x):=by
 cases x with
 |tmp t=>exact F.slot t g h
 |const v=>exact VV h
 |global g=>cases h
 |func f=>cases h;exact Rl.fn' .nil .nil
theorem Jw (F:oK ρ n σ a):∀{b:V6 V3} {gs:V6 GV},Kt σ b=some gs->zX ρ gs (b.map a.eval)
 | [],gs,h=>by cases h;exact .nil
 |x::b,gs,h=>by
  have⟨v,d,e⟩:=aH.1 (show ob (nK σ x) (λv=>ob (Kt σ b) λc=>some (v::c))=some gs from h);have⟨c,f,g⟩:=aH.1 e;cases g;exact .cons (dQ F d) (Jw F f)
def RlP (ρ:iP) (b:V6 (Nat×GV)) (c:V6 (Nat×V0)):Prop:=b.map (·.1)=c.map (·.1)/\zX ρ (b.map (·.2)) (c.map (·.2))
theorem Hk (F:oK ρ n σ a):∀{b:V6 (Nat×V3)} {gs:V6 (Nat×GV)},Aa σ b=some gs->RlP ρ gs (b.map λp=>(p.1,a.eval p.2))
 | [],gs,h=>by cases h;exact⟨rfl,.nil⟩
 |x::b,gs,h=>by
  have⟨v,f,g⟩:=aH.1 (show ob (nK σ x.2) (λv=>ob (Aa σ b) λc=>some ((x.1,v)::c))=some gs from h);have⟨c,i,j⟩:=aH.1 g;cases j;have⟨d,e⟩:=Hk F i;exact⟨by simp only[List.map_cons,d],.cons (dQ F f) e⟩
end
def HA (P:Program) (ρ:iP) (s:Sem V0) (g:GV):Prop:=∃v,Rl ρ g v/\∀w,s.run P w = .ok v w
structure iR (P:Program) (tb:TB):Prop where
 tab:∀{T d},tb T=some d->xG P T d
 /-- structs of leaves may be compared -/
 eqs:∀{T fs},Qt T=true->vF tb T=some fs->BQ tb fs=true->P.stoodInHeld T=false/\∀f∈fs,f.name ≠ "_"
noncomputable def aiY (P:Program) (b:TB):V4:=(List.range 512).all λT=>bif Qt T then(Option.casesOn (motive:=λ_=>V4) (vF b T) true λa=>bif BQ b a then(!P.stoodInHeld T&&a.all λf=> !(f.name == "_"))else true)else true
theorem ahj {P:Program} {c:TB} (h:aiY P c=true) {T:Nat} {b:V6 Field} (a:Qt T=true) (i:vF c T=some b) (j:BQ c b=true):P.stoodInHeld T=false/\∀f∈b,f.name ≠ "_":=by
 have g:T<512:=by
  have⟨_,h⟩:=bZ.1 (show(bif Nat.blt 31 T then(bif Nat.blt T 512 then some ()else none)else none)=some () by
   unfold Qt at a;cases e:Nat.blt 31 T<;>rw[e]at a
   .cases a
   .rw[cond_true]at a;rw[a];rfl)
  have⟨h,_⟩:=bZ.1 h;simpa [zAp]using h
 have:=zA2.1 h T (zAg.2 g);rw[a,cond_true,i]at this;have this:(bif BQ c b then(!P.stoodInHeld T&&b.all λf=> !(f.name == "_"))else true)=true:=this;rw[j,cond_true,zA5]at this;exact⟨by simpa using this.1,λf d=>by simpa using zA2.1 this.2 f d⟩
section
variable {P:Program} {tb:TB} {ρ:iP} {V U W:V0} {v u t g:GV}
theorem Wx {k:IntKind} {z:Int} {g:GV} (h:gw k z=some g):g = .int k (k.wrap z):=by
  unfold gw at h;rw[aaF]at h;cases b:afo k with
  | true =>
    rw[b]at h;have⟨c,d⟩:=bZ.1 h;cases d;have e:k = .i64:=by cases k<;>first|rfl|cases b
    subst e;have : -9223372036854775808<=z/\z<=9223372036854775807:=by
      cases z with
      | ofNat a =>
          have : a < 9223372036854775808 := by simpa [aaU, zAp] using c
          simp only[Int.ofNat_eq_natCast];omega
      | negSucc a =>
          have : a < 9223372036854775808 := by simpa [aaU, zAp] using c
          omega
    rw[QS this.1 this.2]
  | false =>
    rw[b]at h;simp only[cond_false,aaF]at h;cases h;rfl
theorem acK {l:BinOp} {k:IntKind} {a b:Int} {T:V9} (i:NN l=false) (h:aiO l k a b=some g):∃v,Rl ρ g v/\binOp l T (.int k a) (.int k b) = .pure v:=by
 have j:∀{p:Prop} [Decidable p] {c:V4},c=decide p->fb c=some g->Rl ρ g (.bool (decide p)):=λe h=>by rw[Ou]at h;cases h;rw[e];exact .bool _
 have d:∀f,NN f=false->Mv (binOp f 0 (.int k a) (.int k b))=some g->∃v,Rl ρ g v/\binOp f T (.int k a) (.int k b) = .pure v:=λf m h=>by
  have⟨v,n,o⟩:=XP (ρ:=ρ) h;refine⟨v,n,?_⟩
  rw[<-o];cases f<;>first|rfl|cases m
 cases l with
 |add=>exact⟨_,by rw[Wx h];exact .int _ _,by simp[binOp,Op.intArith];rfl⟩
 |sub=>exact⟨_,by rw[Wx h];exact .int _ _,by simp[binOp,Op.intArith];rfl⟩
 |eql=>exact⟨.bool (decide (a=b)),j (Mh a b) h,by simp[binOp,Op.intCmp];rfl⟩
 |neq=>exact⟨.bool (decide (¬a=b)),j (by rw[Mh];simp) h,by simp[binOp,Op.intCmp];rfl⟩
 |lss=>exact⟨.bool (decide (a<b)),j (Mn a b) h,by simp[binOp,Op.intCmp];rfl⟩
 |leq=>exact⟨.bool (decide (a<=b)),j (by rw[Mn,<-decide_not];exact decide_eq_decide.2 V7) h,by simp[binOp,Op.intCmp];rfl⟩
 |gtr=>exact⟨.bool (decide (b<a)),j (Mn b a) h,by simp[binOp,Op.intCmp];rfl⟩
 |geq=>exact⟨.bool (decide (b<=a)),j (by rw[Mn,<-decide_not];exact decide_eq_decide.2 V7) h,by simp[binOp,Op.intCmp];rfl⟩
 |shl=>cases i
 |shr=>cases i
 |mul=>exact d .mul i h
 |quo=>exact d .quo i h
 |rem=>exact d .rem i h
 |and=>exact d .and i h
 |or=>exact d .or i h
 |xor=>exact d .xor i h
 |andNot=>exact d .andNot i h
end
theorem Br (b:UInt8) (l:V6 UInt8):qO (b::l)=b.toNat+256*qO l:=rfl
theorem KR:∀{x y:V6 UInt8},x.length=y.length->qO x=qO y->x=y
 | [],[],_,_=>rfl
 | [],_::_,h,_=>by simp at h
 |_::_,[],h,_=>by simp at h
 |a::x,b::y,h,e=>by
  rw[Br,Br]at e;have f:=a.toNat_lt;have g:=b.toNat_lt;have c:a.toNat=b.toNat:=V7
  have d:qO x=qO y:=V7
  rw[UInt8.toNat_inj.1 c,KR (by simpa using h) d]
theorem Mf:∀(x:V6 UInt8) (n:Nat),qO x / 256^n=qO (x.drop n)
 |x,0=>by simp
 | [],n+1=>by simp[qO]
 |b::x,n+1=>by
  rw[Br,List.drop_succ_cons,<-Mf x n,Nat.pow_succ,Nat.mul_comm (256^n) 256,<-Nat.div_div_eq_div_mul];have:=b.toNat_lt;congr 1;omega
theorem Qs:∀(x:V6 UInt8) (n:Nat),qO x%256^n=qO (x.take n)
 |x,0=>by simp[qO,Nat.mod_one]
 | [],n+1=>by simp[qO]
 |b::x,n+1=>by
  rw[Br,List.take_succ_cons,Br,<-Qs x n,Nat.pow_succ,Nat.mul_comm (256^n) 256,Nat.mod_mul];have d:=b.toNat_lt;have a:(b.toNat+256*qO x)%256=b.toNat:=V7
  have c:(b.toNat+256*qO x) / 256=qO x:=V7
  rw[a,c]
theorem ajH (n l:Nat):Nat.shiftRight n (Nat.mul 8 l)=n / 256^l:=by
 show n >>> (8*l)=_;rw[Nat.shiftRight_eq_div_pow,Nat.pow_mul]
theorem ajr (k:Nat):Nat.pow 2 (Nat.mul 8 k)=256^k:=by
 show 2^(8*k)=_;rw[Nat.pow_mul]
theorem aaB (x:V6 UInt8) (l k:Nat):Nat.mod (Nat.shiftRight (qO x) (Nat.mul 8 l)) (Nat.pow 2 (Nat.mul 8 k))=qO ((x.drop l).take k):=by
 rw[ajH,ajr];show qO x / 256^l%256^k=_;rw[Mf,Qs]
theorem Xi (x:V6 UInt8) (i:Nat) (h:i<x.length):Nat.mod (Nat.shiftRight (qO x) (Nat.mul 8 i)) 256=(x[i]).toNat:=by
 rw[ajH];show qO x / 256^i%256=_;rw[Mf,List.drop_eq_getElem_cons h,Br];have:=(x[i]).toNat_lt;omega
theorem Ys (s:ByteArray) (i:Nat):s[i]?=(cE s)[i]?:=by
 unfold cE;by_cases h:i<s.size
 .rw[getElem?_pos s i h,zAj,Array.getElem?_eq_getElem (by simpa using h)];rfl
 .rw[getElem?_neg s i h];rw[zAs (by have:=Lib.size_eq s;omega)]
section
variable {P:Program} {tb:TB} {ρ:iP} {V U W:V0} {v u t g:GV}
theorem aiN (a b:ByteArray):(a==b)=(a.toList==b.toList):=by
 rw[Lib.toList_data,Lib.toList_data];have⟨⟨x⟩⟩:=a;have⟨⟨y⟩⟩:=b;have:((⟨⟨x⟩⟩:ByteArray)==⟨⟨y⟩⟩)=((⟨x⟩:Array UInt8)==⟨y⟩):=rfl;rw[this];simp
theorem ahi {a b:Nat×Nat} {s r:ByteArray} (f:a.1=qO (cE s)) (h:a.2=(cE s).length) (i:b.1=qO (cE r)) (j:b.2=(cE r).length):eqS a b=(s.toList==r.toList):=by
 rw[Lib.toList_data,Lib.toList_data];unfold eqS;rw[f,h,i,j];by_cases d:(cE s).length=(cE r).length
 .have k:Nat.beq (cE r).length (cE r).length=true:=V8
  rw[d,k,cond_true];by_cases c:qO (cE s)=qO (cE r)
  .have:=KR d c;unfold cE at this;rw[c,this];simp
  .rw[qT c];symm;rw[beq_eq_false_iff_ne];intro e;exact c (by unfold cE;rw[e])
 .rw[qT d,cond_false];symm;rw[beq_eq_false_iff_ne];intro e;exact d (by unfold cE;rw[e])
theorem YR (z:iR P tb) {T:V9} {t:Ty} (C:tb T=some t) {q:V4} (e:Rl ρ v V) (d:Rl ρ u U) (h:VJ t v u=some q) (m:Nat) (w:V2):(Op.equalIn (m+1) T V U).run P w = .ok q w:=by
 have c:=(z.tab C).run_und w;unfold VJ at h;cases j:v.asI with
 |some a=>
  rw[j]at h;have⟨b,f,h⟩:=aH.1 h;have⟨k,B,h⟩:=aH.1 h;have⟨l,h⟩:=bZ.1 h;cases h;rw[qE j]at e;rw[qE f]at d;rw[e.int_inv,d.int_inv,<-Mi l];rw[KC B]at c;unfold Op.equalIn;rw[Mh];simp[c];rfl
 | none =>
  rw[j]at h;simp only at h;cases n:v.asStr with
  |some a=>
   rw[n]at h;have⟨b,f,h⟩:=aH.1 h;have⟨i,h⟩:=bZ.1 h;cases h;rw[xI n]at e;rw[xI f]at d;obtain⟨s,rfl,o,p⟩:=e.str_inv;obtain⟨r,rfl,x,y⟩:=d.str_inv;rw[FU i]at c;rw[ahi o p x y,<-aiN];unfold Op.equalIn;simp[c]
  |none=>
   rw[n]at h;have⟨a,A,h⟩:=aH.1 (show ob v.asB _=some q from h);have⟨b,f,h⟩:=aH.1 h;have⟨i,h⟩:=bZ.1 h;cases h;rw[IJ A]at e;rw[IJ f]at d;rw[e.bool_inv,d.bool_inv];rw[Wm i]at c;unfold Op.equalIn;rw[Kq];simp[c]
theorem Qz {t:Ty} (h:JV t=true):(∃k,t.desc = .int k)\/t.desc = .string\/t.desc = .bool:=by
 unfold JV at h;cases a:tdB t.desc with
 |true=>exact .inr (.inr (Wm a))
 | false =>
  rw[a]at h;cases c:Nb t.desc with
  |true=>exact .inr (.inl (FU c))
  |false=>
   rw[c]at h;cases b:tdI t.desc with
   |none=>rw[b]at h;cases h
   |some k=>exact .inl ⟨k,KC b⟩
theorem MR {f:Field} {a:V6 Field} (h:BQ tb (f::a)=true):∃t,tb f.type=some t/\JV t=true/\BQ tb a=true:=by
 have h:(Option.casesOn (motive:=λ_=>V4) (tb f.type) false λt=>bif JV t then BQ tb a else false)=true:=h;cases c:tb f.type with
 |none=>rw[c]at h;cases h
 |some t=>
  rw[c]at h;have h:(bif JV t then BQ tb a else false)=true:=h;cases b:JV t with
  |false=>rw[b]at h;cases h
  |true=>rw[b]at h;exact⟨t,rfl,b,h⟩
theorem Un (c:iR P tb) {T:V9} {t:Ty} (h:tb T=some t) (f:JV t=true) {cs:Array V0} {b:Nat} {x:V0} (i:cs[b]?=some x) (w:V2):(part T cs b).run P w = .ok x w:=by
 have a:=(c.tab h).run_und w;have d:(isAgg T).run P w = .ok false w:=by
  unfold isAgg;rcases Qz f with⟨k,e⟩|e|e<;>rw[e]at a<;>simp[a]
 unfold part;simp[d,i]
theorem Ul (k:iR P tb) {cs n:V6 GV} {z s:V6 V0} (D:zX ρ cs z) (C:zX ρ n s) (m:Nat) (w:V2):∀{c:V6 Field} {q:V4},adS tb cs n c=some q->BQ tb c=true->(∀f∈c,f.name ≠ "_")->
  Sem.run P (forIn c ((none,()):V1 V4×Unit) λf __s=>if f.name = "_" then pure (ForInStep.yield (none,()))else do
   let __do_lift <-part f.type z.toArray f.offset;let __do_lift_1 <-part f.type s.toArray f.offset;let __do_lift <-Op.equalIn (m+1) f.type __do_lift __do_lift_1
   if __do_lift=false then pure (ForInStep.done (some false,()))else pure (ForInStep.yield (none,()))) w = .ok (if q then none else some false,()) w
 | [],q,h,_,_=>by
  have:q=true:=by have h:some true=some q:=h;cases h;rfl
  subst this;simp
 | f :: c, q, h, hl, hn =>by
  have⟨t,l,h⟩:=aH.1 (show ob (tb f.type) _=some q from h);have⟨a,A,h⟩:=aH.1 h;have⟨b,B,h⟩:=aH.1 h;have⟨e,H,h⟩:=aH.1 h;have⟨M,j,d,o⟩:=MR hl;rw[l]at j;cases j;rw[Ab]at A B;have⟨x,J,p⟩:=D.get A;have⟨y,K,r⟩:=C.get B;have E:=Un k l d (cs:=z.toArray) (by simpa using J) w;have F:=Un k l d (cs:=s.toArray) (by simpa using K) w;have G:=YR k l p r H m w;have i:=hn f zAd;cases e with
  |false=>
   have:q=false:=by have h:some false=some q:=h;cases h;rfl
   subst this;simp[List.forIn_cons,i,E,F,G]
  |true=>
   have L:=Ul k D C m w (show adS tb cs n c=some q from h) o λf I=>hn f (zAk _ I);simp[List.forIn_cons,i,E,F,G,L]
theorem YE (f:iR P tb) {T:V9} {d:V6 Field} (r:Qt T=true) (b:vF tb T=some d) (p:BQ tb d=true) {n o:V6 GV} {l j:V6 V0} (B:zX ρ n l) (A:zX ρ o j) {q:V4} (h:adS tb n o d=some q) (w:V2):
  (Op.equal T (.agg l.toArray) (.agg j.toArray)).run P w = .ok q w:=by
 have⟨y,x⟩:=f.eqs r b p;have⟨t,z,e⟩:=aH.1 (show ob (tb T) _=some d from b);have⟨a,s,e⟩:=aH.1 e;cases e;have c:=(f.tab z).run_und w;rw[Sy s]at c;have⟨a⟩:=a;have i:∀m,(Op.equalIn (m+1+1) T (.agg l.toArray) (.agg j.toArray)).run P w = .ok q w:=λm=>by
  have k:=Ul f B A m w h p x;unfold Op.equalIn;simp[c,y];simp only[]at k;rw[k];cases q<;>simp
 exact i 9998
theorem Mg (b:iR P tb):∀(m:Nat) {T:V9} {t:Ty},tb T=some t->JV t=true->P.eqGuardType (m+1) T=false:=λm T t d c=>by
 have a:=(b.tab d).und;unfold Program.eqGuardType;rcases Qz c with⟨k,e⟩|e|e<;>rw[e]at a<;>simp[a]
theorem Oq (p:iR P tb) {T:V9} {d:V6 Field} (k:vF tb T=some d) (s:BQ tb d=true):P.eqGuardType P.depth T=false:=by
 have⟨t,w,e⟩:=aH.1 (show ob (tb T) _=some d from k);have⟨a,r,e⟩:=aH.1 e;cases e;have c:=(p.tab w).und;rw[Sy r]at c;have o:∀m,P.eqGuardType (m+2) T=false:=λm=>by
  unfold Program.eqGuardType;rw[c];simp only;rw[Array.any_eq_false'];intro f b;have:f∈a.toList:=by simpa using b
  have n:∀(l:V6 Field),BQ tb l=true->∀f∈l,∃t,tb f.type=some t/\JV t=true:=by
   intro l
   induction l with
   |nil=>intro _ f b;cases b
   |cons x l y=>
    intro h f b;have⟨t,i,j,q⟩:=MR h;rcases zAi.1 b with rfl|b
    .exact⟨t,i,j⟩
    .exact y q f b
  have⟨z,i,j⟩:=n _ s f this;simp[Mg p m i j]
 unfold Program.depth;exact o _
theorem YK (f:iR P tb) {e:BinOp} {T:V9} {d:V6 Field} (c:vF tb T=some d) (i:BQ tb d=true) (x y:V3) (a b:Array V0) (w:V2):(eqGuard e T x y (.agg a) (.agg b)).run P w = .ok () w:=by
 have h:=Oq f c i;unfold eqGuard;cases e<;>simp[h]
theorem Kp {d:BinOp} {T:V9} {q:V4} {V U:V0} {x y:V3} (f:∀w,(eqGuard d T x y V U).run P w = .ok () w) (e:∀w,(Op.equal T V U).run P w = .ok q w) (i:binOp .eql T V U=(do pure (.bool (<-Op.equal T V U)))) (j:binOp .neq T V U=(do pure (.bool (!(<-Op.equal T V U))))) (h:acJ d q true=some g):
  HA P ρ (do eqGuard d T x y V U;binOp d T V U) g:=by
 cases d with
 |eql=>exact⟨.bool q,by have c:fb (Xk q true)=some g:=h;rw[Ou,Kq]at c;cases c;cases q<;>exact .bool _,λw=>by have a:=f w;have b:=e w;rw[i];simp[a,b]⟩
 |neq=>exact⟨.bool (!q),by have c:fb (!Xk q true)=some g:=h;rw[Ou,Kq]at c;cases c;cases q<;>exact .bool _,λw=>by have a:=f w;have b:=e w;rw[j];simp[a,b]⟩
 |_=>cases h
theorem abV (m:iR P tb) {f:BinOp} {T:V9} (x y:V3) (c:Rl ρ v V) (j:Rl ρ u U) (h:abU tb f T v u=some g):HA P ρ (do eqGuard f T x y V U;binOp f T V U) g:=by
 unfold abU at h;cases o:v.asA with
 |some K=>
  rw[o]at h;have⟨L,D,h⟩:=aH.1 (show ob u.asA _=some g from h);have⟨z,h⟩:=bZ.1 h;have⟨M,d,h⟩:=aH.1 h;have⟨p,h⟩:=bZ.1 h;have⟨q,F,h⟩:=aH.1 h;rw[Ri o]at c;rw[Ri D]at j;obtain⟨O,rfl,G,_⟩:=c.agg_inv;obtain⟨N,rfl,r,_⟩:=j.agg_inv;exact Kp (YK m d p x y _ _) (YE m z d p G r F) Z Z h
 | none =>
  rw[o]at h;have⟨J,h⟩:=bZ.1 (show(bif u.isSnil then _ else none)=some g from h);have⟨n,i,h⟩:=aH.1 h;have⟨t,I,h⟩:=aH.1 h;have⟨e,E,h⟩:=aH.1 h;rw[Bu J]at j;have B:=j.snil_inv;subst B;have b:=λw=>(m.tab I).run_und w;rw[KD E]at b;cases a:v.isSnil with
  | true =>
   rw[a]at h;rw[Bu a]at c;have C:=c.snil_inv;subst C;refine Kp (λw=>?_) (q:=true) (λw=>?_) Z Z h
   .unfold eqGuard;cases f<;>simp
   .have:(Op.equalIn (9999+1) T (.slice none 0 0) (.slice none 0 0)).run P w = .ok true w:=by
     unfold Op.equalIn;simp[b w]
    exact this
  | false =>
   rw[a]at h;unfold aeb at i;rw[a]at i;have⟨s,H,i⟩:=aH.1 (show ob v.asS _=some n from i);rw[GN H]at c;obtain⟨l,k,A,p,rfl,_,_⟩:=c.sl_inv;refine Kp (λw=>?_) (q:=false) (λw=>?_) Z Z h
   .unfold eqGuard;cases f<;>simp
   .have:(Op.equalIn (9999+1) T (.slice (some A) s.2.2.1 k) (.slice none 0 0)).run P w = .ok false w:=by
     unfold Op.equalIn;simp[b w]
    exact this
theorem MM:∀(x y:V6 UInt8),qO (x++y)=qO x+256^x.length*qO y
 | [],y=>by simp[qO]
 |b::x,y=>by
  rw[List.cons_append,Br,Br,MM x y,zA3,Nat.pow_succ];rw[Nat.mul_add,Nat.mul_comm (256^x.length) 256,Nat.mul_assoc];omega
theorem Xf {a b:Nat×Nat} {s r:ByteArray} (f:a.1=qO (cE s)) (c:a.2=(cE s).length) (j:b.1=qO (cE r)) (k:b.2=(cE r).length) (h:agQ a b=some g) (w:V2):Rl ρ g (.string (s++r))/\(Op.stringOp .add s r).run P w = .ok (.string (s++r)) w:=by
 unfold agQ at h;have⟨e,h⟩:=bZ.1 h;rw[FK,FK]at h;cases h;have e:a.2+b.2<16777216:=by simpa [zAp]using e
 have d:cE (s++r)=cE s++cE r:=by
  unfold cE;have⟨⟨x⟩⟩:=s;have⟨⟨y⟩⟩:=r;simp
 constructor
 .have l:Nat.add a.1 (Nat.mul (Nat.pow 2 (Nat.mul 8 a.2)) b.1)=qO (cE (s++r)):=by
   rw[d,MM,ajr,f,c,j];rfl
  have m:Nat.add a.2 b.2=(cE (s++r)).length:=by rw[d,zA0,c,k];rfl
  rw[l,m];exact .str _
 .have B:(s.size:Int)+(r.size:Int)<=9223372036854775807:=by
   have o:=Lib.size_eq s;have p:=Lib.size_eq r;have q:(cE s).length=s.data.size:=by unfold cE;simp
   have z:(cE r).length=r.data.size:=by unfold cE;simp
   have A:s.data.toList.length=s.data.size:=V8
   have i:r.data.toList.length=r.data.size:=V8
   omega
  have n:¬((((s.size+r.size:Nat)):Int)>IntKind.i64.max):=by
   show¬((((s.size+r.size:Nat)):Int)>9223372036854775807);omega
  unfold Op.stringOp;simp only[];rw[if_neg n];rfl
theorem XX (S:iR P tb) {i:BinOp} {T:V9} (x y:V3) (B:Rl ρ v V) (A:Rl ρ u U) (h:Wp tb i T v u=some g):HA P ρ (do eqGuard i T x y V U;binOp i T V U) g:=by
 unfold Wp at h;cases hi:v.asI with
 | some a =>
  rw[hi]at h;have⟨b,C,h⟩:=aH.1 h;rw[qE hi]at B;rw[qE C]at A;rw[B.int_inv,A.int_inv];have hg:∀w,(eqGuard i T x y (.int a.1 a.2) (.int b.1 b.2)).run P w = .ok () w:=λw=>mF w;cases M:NN i with
  |true=>
   rw[M]at h;have⟨z,j,l⟩:=XP (ρ:=ρ) h;have e:binOp i T (.int a.1 a.2) (.int b.1 b.2)=binOp i 0 (.int a.1 a.2) (.int b.1 b.2):=by cases i<;>first|rfl|cases M
   exact⟨z,j,λw=>by rw[e,l];simp[hg w]⟩
  |false=>
   rw[M]at h;simp only[cond_false]at h;have⟨K,h⟩:=bZ.1 h;have K:=Mi K;have⟨z,j,l⟩:=acK (ρ:=ρ) (T:=T) M h;exact⟨z,j,λw=>by rw[<-K,l];have:=hg w;rw[<-K]at this;simp[this]⟩
 | none =>
  rw[hi]at h;simp only at h;cases q:v.asStr with
  | some a =>
   rw[q]at h;have⟨b,C,h⟩:=aH.1 h;rw[xI q]at B;rw[xI C]at A;obtain⟨s,rfl,D,E⟩:=B.str_inv;obtain⟨r,rfl,O,Q⟩:=A.str_inv;have o:eqS a b=(s.toList==r.toList):=by
    rw[Lib.toList_data,Lib.toList_data];unfold eqS;rw[D,E,O,Q];by_cases L:(cE s).length=(cE r).length
    .have C:Nat.beq (cE r).length (cE r).length=true:=V8
     rw[L,C,cond_true];by_cases J:qO (cE s)=qO (cE r)
     .have:=KR L J;unfold cE at this;rw[J,this];simp
     .rw[qT J];symm;rw[beq_eq_false_iff_ne];intro hh;exact J (by unfold cE;rw[hh])
    .rw[qT L,cond_false];symm;rw[beq_eq_false_iff_ne];intro hh;exact L (by unfold cE;rw[hh])
   have d:∀w,(eqGuard i T x y (.string s) (.string r)).run P w = .ok () w:=λw=>by unfold eqGuard;cases i<;>simp
   have f:∀c:V4,fb c=some g->Rl ρ g (.bool c):=λc hc=>by rw[Ou]at hc;cases hc;exact .bool _
   cases i with
   |eql=>exact⟨_,f _ h,λw=>by rw[o];have:=d w;simp[this,binOp,Op.stringOp]⟩
   |neq=>exact⟨_,f _ h,λw=>by rw[o];have:=d w;simp[this,binOp,Op.stringOp]⟩
   |add=>exact⟨_,(Xf (P:=P) D E O Q h default).1,λw=>by have:=d w;have k:=(Xf (ρ:=ρ) (P:=P) D E O Q h w).2;simp only[Sem.run_bind,this,Result.andThen_ok,binOp,k]⟩
   |_=>cases h
  | none =>
   rw[q]at h;simp only at h;cases X:v.asB with
   | none =>
    rw[X]at h;simp only at h;cases j:v.isInil with
    |false=>rw[j]at h;exact abV S x y B A h
    |true=>
    rw[j]at h;have n:=h;clear h;have⟨l,h⟩:=bZ.1 (show(bif u.isInil then _ else none)=some g from n);clear n;have⟨t,ht,n⟩:=aH.1 h;clear h;have⟨F,p⟩:=bZ.1 n;clear n;have D:v = .inil:=by cases v<;>first|rfl|cases j
    have E:u = .inil:=by cases u<;>first|rfl|cases l
    subst D;subst E;cases B;cases A;obtain⟨N,H,h0⟩:∃N,t.desc = .interface N/\N.size=0:=by
     cases hq:t.desc<;>rw[hq]at F<;>first|(exact⟨_,rfl,zA4 F⟩)|cases F
    have I:∀w:V2,_:=λw=>(S.tab ht).run_und w;have R:N.isEmpty=true:=by simp[Array.isEmpty,h0]
    have Y:∀w,(Op.eqGuardIn Op.maxDepth T .nilIface .nilIface).run P w = .ok false w:=λw=>by
     have f:∀m:Nat,(Op.eqGuardIn (m+1) T .nilIface .nilIface).run P w = .ok false w:=by
      intro m;unfold Op.eqGuardIn;simp[I w,H,R]
     exact f 9999
    have G:∀w,(Op.equal T .nilIface .nilIface).run P w = .ok true w:=λw=>by
     have f:∀m:Nat,(Op.equalIn (m+1) T .nilIface .nilIface).run P w = .ok true w:=by
      intro m;unfold Op.equalIn;simp[I w,H]
     exact f 9999
    have d:∀w,(eqGuard i T x y .nilIface .nilIface).run P w = .ok () w:=λw=>by
     unfold eqGuard;cases i<;>simp[Y w]
     all_goals (split<;>simp)
    cases i with
    |eql=>cases p;exact⟨.bool true,.bool _,λw=>by have j:=d w;have l:=G w;simp[j,binOp,l]⟩
    |neq=>cases p;exact⟨.bool false,.bool _,λw=>by have j:=d w;have l:=G w;simp[j,binOp,l]⟩
    |_=>cases p
   | some a =>
    rw[X]at h;simp only at h;have⟨b,C,h⟩:=aH.1 h;have⟨t,ht,h⟩:=aH.1 h;have⟨F,h⟩:=bZ.1 h;rw[IJ X]at B;rw[IJ C]at A;rw[B.bool_inv,A.bool_inv];have d:∀w,(eqGuard i T x y (.bool a) (.bool b)).run P w = .ok () w:=λw=>by unfold eqGuard;cases i<;>simp
    have o:∀w,(Op.equal T (.bool a) (.bool b)).run P w = .ok (a==b) w:=λw=>by
     have A:=(S.tab ht).run_und w;rw[Wm F]at A;have f:∀m:Nat,(Op.equalIn (m+1) T (.bool a) (.bool b)).run P w = .ok (a==b) w:=by
      intro m;unfold Op.equalIn;simp[A]
     exact f 9999
    cases i with
    |eql=>exact⟨.bool (a==b),by have n:fb (Xk a b)=some g:=h;rw[Ou,Kq]at n;cases n;exact .bool _,λw=>by have j:=d w;have l:=o w;simp[j,binOp,l]⟩
    |neq=>exact⟨.bool (!(a==b)),by have n:fb (!Xk a b)=some g:=h;rw[Ou,Kq]at n;cases n;exact .bool _,λw=>by have j:=d w;have l:=o w;simp[j,binOp,l]⟩
    |_=>cases h
theorem acd {d:UnOp} (b:Rl ρ v V) (h:vUn d v=some g):HA P ρ (Op.unary d V) g:=by
 cases d with
 |neg=>
  have⟨a,c,h⟩:=aH.1 (show ob v.asI _=some g from h);rw[qE c]at b;rw[b.int_inv,Wx h];exact⟨_,.int _ _,λw=>by simp[Op.unary,Op.intArith]⟩
 |not=>
  have⟨a,c,h⟩:=aH.1 (show ob v.asB _=some g from h);rw[IJ c]at b;rw[b.bool_inv];rw[Ou]at h;cases h;exact⟨_,.bool _,λw=>by simp[Op.unary]⟩
 |_=>cases h
theorem Uz (e:iR P tb) {S D:V9} (f:Rl ρ v V) (h:afF tb S D v=some g):HA P ρ (convert S D V) g:=by
 have⟨a,i,h⟩:=aH.1 (show ob v.asI _=some g from h);have⟨s,l,h⟩:=aH.1 h;have⟨n,b,h⟩:=aH.1 h;have⟨t,m,h⟩:=aH.1 h;have⟨k,j,h⟩:=aH.1 h;rw[aaF]at h;cases h;rw[qE i]at f;rw[f.int_inv];refine⟨_,.int _ _,λw=>?_⟩
 have c:=(e.tab l).run_und w;have d:=(e.tab m).run_und w;rw[KC b]at c;rw[KC j]at d;simp[convert,c,d,Conv.intToInt]
theorem Ub (d:Rl ρ v V) (h:v.nilck=some g):g=v/\∀(o:V5) (x:V3) (a:V3->V0),o.op = .nilCheck x->a x=V->∀w,(execOp a o).run P w = .ok (.value V) w:=by
 cases d with
 |ptr e m=>cases h;exact⟨rfl,λo x a b c w=>by simp[execOp,b,c]⟩
 |fn f i j k l=>cases h;exact⟨rfl,λo x a b c w=>by simp[execOp,b,c]⟩
 |_=>cases h
theorem MN (c:iR P tb) {T:V9} {b:V6 Field} (h:vF tb T=some b):∃d,xG P T d/\d.desc = .struct b.toArray:=by
 have⟨t,f,h⟩:=aH.1 (show ob (tb T) _=some b from h);have⟨a,e,h⟩:=aH.1 h;cases h;exact⟨t,c.tab f,by rw[Sy e]⟩
theorem QO (m:iR P tb) {T:V9} {f:Nat} (o:Rl ρ v V) (h:Wt tb T f v=some g):HA P ρ (Instr.fieldAt T V f) g:=by
 have⟨p,y,h⟩:=aH.1 (show ob v.asP _=some g from h);have⟨A,a,h⟩:=aH.1 h;have⟨q,n,h⟩:=aH.1 h;have⟨z,i,h⟩:=aH.1 h;have⟨j,h⟩:=qM.1 h;rw[FK]at h;cases h;rw[IK y]at o;obtain⟨l,x,rfl⟩:=o.ptr_inv;have⟨d,r,s⟩:=MN m a;rw[Ab]at n;refine⟨_,.ptr _ x,λw=>?_⟩
 have k:=r.run_und w;rw[s]at k;have c:z.size≠0:=λe=>by rw[e]at j;cases j
 have e:l.off+(p.2+q.offset)=l.off+p.2+q.offset:=V7
 show(Instr.fieldAt T (.pointer (some ⟨l.b,l.off+p.2,none⟩)) f).run P w = .ok (.pointer (some ⟨l.b,l.off+(p.2+q.offset),none⟩)) w;rw[e];simp[Instr.fieldAt,k,n,Instr.sureAddr,fieldPlace,(m.tab i).run_size w,c,gQ]
theorem VU (n:iR P tb) {T:V9} {t:Ty} {f:V6 GV} {e:V6 V0} {o:Nat} (d:xG P T t) (c:zX ρ f e) (j:∀v∈e,one v=true) (h:GA t f o=some g):HA P ρ (part T e.toArray o) g:=by
 unfold GA at h;cases b:Bh t.desc with
 |true=>
  rw[b]at h;have⟨r,k,h⟩:=aH.1 h;cases h;obtain⟨p,rfl⟩:=Sk k;refine⟨_,Nu (c.sub o t.size) (λv l=>j v (List.mem_of_mem_drop (List.mem_of_mem_take l))),λw=>?_⟩
  have a:=d.run_agg w;have i:=d.run_size w;rw[b]at a;simp[part,a,i]
 |false=>
  rw[b]at h;rw[cond_false,Ab]at h;have⟨x,m,c⟩:=c.get h;refine⟨x,c,λw=>?_⟩
  have a:=d.run_agg w;rw[b]at a;simp[part,a,m]
theorem UC (b:iR P tb) {T:V9} {f:Nat} (k:Rl ρ v V) (h:afJ tb T f v=some g):HA P ρ (Instr.field T V f) g:=by
 have⟨s,m,h⟩:=aH.1 (show ob v.asA _=some g from h);have⟨y,c,h⟩:=aH.1 h;have⟨q,j,h⟩:=aH.1 h;have⟨z,e,h⟩:=aH.1 h;rw[Ri m]at k;obtain⟨A,rfl,p,l⟩:=k.agg_inv;have⟨d,n,o⟩:=MN b c;rw[Ab]at j;have⟨x,r,a⟩:=VU (T:=q.type) b (b.tab e) p l h;refine⟨x,r,λw=>?_⟩
 have i:=n.run_und w;rw[o]at i;have:=a w;simp[Instr.field,i,j,asAgg,this]
theorem Bq (c:iR P tb) {T:V9} {e:V9×Ty} (h:EA tb T=some e):(∃d,xG P T d/\d.desc = .slice e.1)/\xG P e.1 e.2/\tb e.1=some e.2:=by
 have⟨t,i,h⟩:=aH.1 (show ob (tb T) _=some e from h);have⟨a,f,h⟩:=aH.1 h;have⟨j,b,h⟩:=aH.1 h;cases h;exact⟨⟨t,c.tab i,KD f⟩,c.tab b,b⟩
theorem QP (q:iR P tb) {T:V9} (k:Rl ρ v V) (B:Rl ρ u U) (h:Wu tb T v u=some g):HA P ρ (Instr.indexAt T V U) g:=by
 have⟨n,G,h⟩:=aH.1 (show ob u.asI _=some g from h);have⟨i,F,h⟩:=aH.1 h;rw[qE G]at B;rw[B.int_inv,Ko F];cases y:v.asP with
 |some p=>
  rw[y]at h;rw[IK y]at k;obtain⟨l,x,rfl⟩:=k.ptr_inv;have⟨t,I,h⟩:=aH.1 (show ob (tb T) _=some g from h);have⟨e,E,h⟩:=aH.1 h;have⟨f,c,h⟩:=aH.1 h;have⟨a,h⟩:=bZ.1 h;rw[FK]at h;cases h;refine⟨_,.ptr _ x,λw=>?_⟩
  have j:=(q.tab I).run_und w;rw[Wl E]at j;have a:i<e.1:=by simpa [zAp]using a
  have o:l.off+(p.2+i*f.size)=l.off+p.2+i*f.size:=V7
  show(Instr.indexAt T (.pointer (some ⟨l.b,l.off+p.2,none⟩)) (.int n.1 i)).run P w = .ok (.pointer (some ⟨l.b,l.off+(p.2+i*f.size),none⟩)) w;rw[o];simp[Instr.indexAt,asIntOf,j,Instr.sureAddr,a,(q.tab c).run_size w,gQ]
 |none=>
  rw[y]at h;have⟨s,H,h⟩:=aH.1 (show ob v.asS _=some g from h);rw[GN H]at k;obtain⟨l,m,A,x,rfl,J,z⟩:=k.sl_inv;have⟨f,c,h⟩:=aH.1 (show ob (EA tb T) _=some g from h);have⟨a,h⟩:=bZ.1 h;rw[FK]at h;cases h;have⟨⟨d,D,r⟩,C,_⟩:=Bq q c;have a:i<s.2.2.1:=by simpa [zAp]using a
  rcases z with z|⟨rfl,_⟩
  .omega
  refine⟨_,.ptr _ x,λw=>?_⟩
  have j:=D.run_und w;rw[r]at j;have o:l.off+(s.2.1+i*f.2.size)=l.off+s.2.1+i*f.2.size:=V7
  show(Instr.indexAt T (.slice (some ⟨l.b,l.off+s.2.1,none⟩) s.2.2.1 m) (.int n.1 i)).run P w = .ok (.pointer (some ⟨l.b,l.off+(s.2.1+i*f.2.size),none⟩)) w;rw[o];simp[Instr.indexAt,asIntOf,j,a,C.run_size w,gQ]
theorem abT (k:iR P tb) {T:V9} (e:Rl ρ v V) (d:Rl ρ u U) (h:vAt tb T v u=some g):HA P ρ (Instr.index T V U) g:=by
 have⟨s,p,h⟩:=aH.1 (show ob v.asStr _=some g from h);have⟨n,o,h⟩:=aH.1 h;have⟨i,m,h⟩:=aH.1 h;have⟨t,q,h⟩:=aH.1 h;have⟨l,h⟩:=bZ.1 h;have⟨a,h⟩:=bZ.1 h;rw[FK]at h;cases h;rw[qE o]at d;rw[d.int_inv,Ko m];rw[xI p]at e;obtain⟨r,rfl,f,j⟩:=e.str_inv;have a:i<(cE r).length:=by rw[<-j];simpa [zAp]using a
 rw[f,Xi _ _ a];refine⟨_,.int _ _,λw=>?_⟩
 have b:=(k.tab q).run_und w;rw[FU l]at b;have c:=Ys r i;rw[zA1 a]at c;simp[Instr.index,asIntOf,b,c]
theorem XZ {i:Nat} (b:Rl ρ v V) (h:aim i v=some g):HA P ρ (Instr.extract V i) g:=by
 have⟨f,c,h⟩:=aH.1 (show ob v.asT _=some g from h);rw[afY c]at b;obtain⟨e,rfl,a⟩:=b.tup_inv;rw[Ab]at h;have⟨x,d,a⟩:=a.get h;exact⟨x,a,λw=>by simp[Instr.extract,d]⟩
theorem Yb {t1 t2 ty:V9} (j:Rl ρ v V) (i:Rl ρ u U) (h:Wv v u=some g):HA P ρ (Builtin.max_ #[t1,t2] ty #[V,U]) g:=by
 have⟨a,k,h⟩:=aH.1 (show ob v.asI _=some g from h);have⟨b,l,h⟩:=aH.1 h;have⟨f,h⟩:=bZ.1 h;have f:=Mi f;have d:=j;have c:=i
 rw[qE k]at d;rw[qE l]at c;rw[Mn]at h;by_cases e:a.2<b.2
 .rw[zAc e]at h;cases h;refine⟨U,i,λw=>?_⟩
  rw[d.int_inv,c.int_inv,<-f];simp[Builtin.max_,Builtin.max2];omega
 .rw[zA6 e]at h;cases h;refine⟨V,j,λw=>?_⟩
  rw[d.int_inv,c.int_inv,<-f];simp[Builtin.max_,Builtin.max2];omega
theorem Yc {t1 t2 ty:V9} (j:Rl ρ v V) (i:Rl ρ u U) (h:acb v u=some g):HA P ρ (Builtin.min_ #[t1,t2] ty #[V,U]) g:=by
 have⟨a,k,h⟩:=aH.1 (show ob v.asI _=some g from h);have⟨b,l,h⟩:=aH.1 h;have⟨f,h⟩:=bZ.1 h;have f:=Mi f;have d:=j;have c:=i
 rw[qE k]at d;rw[qE l]at c;rw[Mn]at h;by_cases e:b.2<a.2
 .rw[zAc e]at h;cases h;refine⟨U,i,λw=>?_⟩
  rw[d.int_inv,c.int_inv,<-f];simp[Builtin.min_,Builtin.min2];omega
 .rw[zA6 e]at h;cases h;refine⟨V,j,λw=>?_⟩
  rw[d.int_inv,c.int_inv,<-f];simp[Builtin.min_,Builtin.min2];omega
theorem XY (c:iR P tb) {T ty:V9} (b:Rl ρ v V) (h:aj_ tb T v=some g):HA P ρ (Builtin.cap_ #[T] ty #[V]) g:=by
 have⟨t,i,h⟩:=aH.1 (show ob (tb T) _=some g from h);have⟨e,f,h⟩:=aH.1 h;have⟨j,h⟩:=bZ.1 h;cases h;rw[Bu j]at b;have d:=b.snil_inv;subst d;have a:=λw=>(c.tab i).run_und w;rw[KD f]at a;exact⟨_,.int _ _,λw=>by simp[Builtin.cap_,a w,goInt]⟩
theorem Ya (d:iR P tb) {T ty:V9} (b:Rl ρ v V) (h:abY tb T v=some g):HA P ρ (Builtin.len_ #[T] ty #[V]) g:=by
 have⟨t,e,h⟩:=aH.1 (show ob (tb T) _=some g from h);cases c:v.asStr with
 |some s=>
  rw[c]at h;have⟨o,h⟩:=bZ.1 h;cases h;rw[xI c]at b;obtain⟨r,rfl,p,m⟩:=b.str_inv;refine⟨_,.int _ _,λw=>?_⟩
  have i:=(d.tab e).run_und w;rw[FU o]at i;rw[m];have:r.size=(cE r).length:=Lib.size_eq r;simp[Builtin.len_,i,goInt,this]
 | none =>
  rw[c]at h;have⟨E,j,h⟩:=aH.1 (show ob (tdS t.desc) _=some g from h);have⟨n,a,h⟩:=aH.1 h;cases h;unfold aeb at a;cases f:v.isSnil with
  |true=>
   rw[f]at a;cases a;rw[Bu f]at b;rw[b.snil_inv];exact⟨_,.int _ _,λw=>Sg w (d.tab e) (KD j) _ _ _ _⟩
  |false=>
   rw[f]at a;have⟨s,c,a⟩:=aH.1 (show ob v.asS _=some n from a);cases a;rw[GN c]at b;obtain⟨l,k,A,y,rfl,x,q⟩:=b.sl_inv;exact⟨_,.int _ _,λw=>Sg w (d.tab e) (KD j) _ _ _ _⟩
end
theorem Xn (a:Nat):∀(c:oA) (k:Nat) (b:Array V0),a+k+c.length<=b.size->
  ((c.zipIdx k).foldl (λb p=>b.setIfInBounds (a+p.2) p.1) b).size=b.size/\
  ∀i,((c.zipIdx k).foldl (λb p=>b.setIfInBounds (a+p.2) p.1) b)[i]?=if a+k<=i/\i<a+k+c.length then c[i - (a+k)]? else b[i]?
 | [],k,b,_=>⟨rfl,λi=>by rw[if_neg V8];rfl⟩
 | v :: c, k, b, h =>by
  simp only[zA3]at h;simp only[List.zipIdx_cons,List.foldl_cons];have⟨f,g⟩:=Xn a c (k+1) (b.setIfInBounds (a+k) v) Q1;refine⟨by rw[f];simp,λi=>?_⟩
  rw[g i];by_cases e:i=a+k
  .subst e;rw[Q0,if_pos V8,zB1 V7];simp
  .by_cases d:a+(k+1)<=i/\i<a+(k+1)+c.length
   .rw[if_pos d,if_pos Q1];have:i - (a+k)=(i - (a+(k+1)))+1:=V7
    rw[this,List.getElem?_cons_succ]
   .rw[if_neg d,if_neg Q1,zAv (Ne.symm e)]
section
variable {P:Program} {tb:TB} {ρ:iP} {V U W:V0} {v u t g:GV}
structure WC (ρ:iP) (cs:List GV) (a:Array V0):Prop where
 r:zX ρ cs a.toList
 one:∀v∈a.toList,Go.Sx.one v=true
theorem RF {a:Array V0} (h:∀v∈a.toList,one v=true) {i:Nat} {v:V0} (b:a[i]?=some v):one v=true:=h v (by
 rw[<-zAj]at b;exact zAo b)
theorem Qw {f B l:V6 GV} {a:Array V0} {d A:Nat} {x:V0} (w:WC ρ f a) (L:Rl ρ g x) (h:g.cells=some l) (J:l.length=A) (H:A≠0) (K:KU l d f=some B):
  (x.cells.size=A/\d+x.cells.size<=a.size)/\WC ρ B (x.cells.zipIdx.foldl (λf (c,j)=>f.setIfInBounds (d+j) c) a):=by
 have⟨q,e,o,I⟩:=L.cells h;have⟨E,N,O⟩:=NL K;have s:l≠[]:=by intro e;subst e;exact H J.symm
 have E:=E s;have D:l.length=q.length:=o.len;have z:f.length=a.size:=by have:=w.r.len;simpa using this
 rw[e];have n:d+0+q.length<=a.size:=V7
 have⟨G,C⟩:=Xn d q 0 a n;have F:(q.toArray.zipIdx.foldl (λf (c,j)=>f.setIfInBounds (d+j) c) a)=((q.zipIdx 0).foldl (λf p=>f.setIfInBounds (d+p.2) p.1) a):=by
  simp
 refine⟨⟨Q1,Q1⟩,?_⟩
 rw[F];refine⟨⟨by simp[G,N,z],λi b c m h=>?_⟩,λy M=>?_⟩
 .rw[O i]at m;rw[zAj,C i]at h;simp only[Nat.add_zero]at h;by_cases k:d<=i/\i<d+l.length
  .rw[if_pos k]at m;rw[Q8]at h;exact o.at' _ _ _ m h
  .rw[if_neg k]at m;rw[Q0]at h;exact w.r.at' i b c m (by rw[zAj];exact h)
 .have⟨i,k⟩:=List.mem_iff_getElem?.1 M;rw[zAj,C i]at k;split at k
  .exact I y (zAo k)
  .exact RF w.one k
theorem Jx {d:Nat}:∀{l:V6 (Nat×GV)} {b:V6 (Nat×V0)} {f c:V6 GV} {a:Array V0},RlP ρ l b->WC ρ f a->Ml d l f=some c->
  ∃j,Instr.fill (λi=>some (i*d,d)) a b=some j/\WC ρ c j
 | [],b,f,c,a,hp,hr,h=>by
  have:b=[]:=by have:=hp.1;simpa using this.symm
  subst this;cases h;exact⟨a,rfl,hr⟩
 | p :: l, b, f, c, a, hp, hr, h =>by
  cases b with
  |nil=>have:=hp.1;simp at this
  |cons q b=>
   have⟨n,x⟩:=hp;simp only[List.map_cons,List.cons.injEq]at n;have⟨y,H,r,A,B⟩:=x.of_cons;simp only[List.map_cons,List.cons.injEq]at r;obtain⟨rfl,rfl⟩:=r;have⟨m,o,h⟩:=aH.1 (show ob p.2.cells (λm=>bif Nat.beq m.length d then(bif Nat.beq d 0 then none else ob (KU m (Nat.mul p.1 d) f) (Ml d l))else none)=some c from h);have⟨D,h⟩:=bZ.1 h;have⟨k,h⟩:=qM.1 h;have⟨F,C,h⟩:=aH.1 h;have k:d≠0:=λe=>by rw[e]at k;cases k
   have⟨⟨G,E⟩,w⟩:=Qw hr A o (zA4 D) k C;have⟨j,s,z⟩:=Jx ⟨n.2,B⟩ w h;refine⟨j,?_,z⟩
   have e:Nat.mul p.1 d=q.1*d:=by rw[<-n.1];rfl
   rw[e]at E w s;show Instr.fill _ a ((q.1,q.2)::b)=_;unfold Instr.fill;simp only;rw[if_neg (by simp only[ne_eq,Bool.or_eq_true,zAa,not_or,zB7];omega)];exact s
theorem Qy {i:V6 (Nat×Nat)}:∀{l:V6 (Nat×GV)} {b:V6 (Nat×V0)} {d c:V6 GV} {a:Array V0},RlP ρ l b->WC ρ d a->VC i l d=some c->
  ∃j,Instr.fill (i.toArray[·]?) a b=some j/\WC ρ c j
 | [],b,d,c,a,hp,hr,h=>by
  have:b=[]:=by have:=hp.1;simpa using this.symm
  subst this;cases h;exact⟨a,rfl,hr⟩
 | p :: l, b, d, c, a, hp, hr, h =>by
  cases b with
  |nil=>have:=hp.1;simp at this
  |cons q b=>
   have⟨n,w⟩:=hp;simp only[List.map_cons,List.cons.injEq]at n;have⟨y,I,r,A,B⟩:=w.of_cons;simp only[List.map_cons,List.cons.injEq]at r;obtain⟨rfl,rfl⟩:=r;have⟨s,f,h⟩:=aH.1 (show ob (LK i p.1) (λq=>ob p.2.cells λm=>bif Nat.beq m.length q.2 then(bif Nat.beq q.2 0 then none else ob (KU m q.1 d) (VC i l))else none)=some c from h);have⟨m,o,h⟩:=aH.1 h;have⟨D,h⟩:=bZ.1 h;have⟨k,h⟩:=qM.1 h;have⟨F,C,h⟩:=aH.1 h;have k:s.2≠0:=λe=>by rw[e]at k;cases k
   have⟨⟨G,H⟩,E⟩:=Qw hr A o (zA4 D) k C;have⟨j,x,z⟩:=Qy ⟨n.2,B⟩ E h;refine⟨j,?_,z⟩
   rw[Ab,n.1]at f;show Instr.fill _ a ((q.1,q.2)::b)=_;unfold Instr.fill;have:i.toArray[q.1]?=some s:=by simpa using f
   simp only[this];rw[if_neg (by simp only[ne_eq,Bool.or_eq_true,zAa,not_or,zB7];omega)];exact x
theorem zV (f:iR P tb) {T:V9} {a:V6 GV} (h:Ha tb T=some a):∃d,tb T=some d/\xG P T d/\WC ρ a d.zero.cells:=by
 have⟨d,b,h⟩:=aH.1 (show ob (tb T) _=some a from h);have⟨z,j,h⟩:=aH.1 h;have⟨k,e,i,c⟩:=(VV (ρ:=ρ) j).cells h;exact⟨d,b,f.tab b,by rw[e];exact⟨i,c⟩⟩
theorem OX (c:iR P tb):∀{b:V6 Field} {a:V6 (Nat×Nat)},Sj tb b=some a->b.mapM (λf=>(P.info? f.type).map λi=>(f.offset,i.size))=some a
 | [],a,h=>by cases h;rfl
 |f::b,a,h=>by
  have⟨t,k,h⟩:=aH.1 (show ob (tb f.type) (λt=>ob (Sj tb b) λr=>some ((f.offset,t.size)::r))=some a from h);have⟨r,e,h⟩:=aH.1 h;cases h;have⟨i,d,j,_,_⟩:=(c.tab k).info;simp[List.mapM_cons,d,j,OX c e]
theorem QN (B:iR P tb) {T:V9} {l:V6 (Nat×GV)} {a:V6 (Nat×V0)} (L:RlP ρ l a) (h:Wr tb T l=some g):HA P ρ (Instr.build T a.toArray) g:=by
 have⟨t,M,h⟩:=aH.1 (show ob (tb T) _=some g from h);have⟨zc,R,h⟩:=aH.1 h;have⟨d,J,I,H⟩:=zV (ρ:=ρ) B R;rw[M]at J;cases J;have⟨i,K,X,_,c⟩:=I.info;have s:=I.und
 suffices hh:∃f,P.built T a=some f/\∃k,g = .agg k/\WC ρ k f by
  obtain⟨f,O,k,rfl,n⟩:=hh;refine⟨.agg f,?_,λw=>run_build w T a.toArray f (by simpa using O)⟩
  have:=Nu n.r n.one;simpa using this
 cases q:tdF t.desc with
 | some fs =>
  rw[q]at h;have⟨S,m,h⟩:=aH.1 (show ob (Uf tb T) _=some g from h);have⟨x,b,h⟩:=aH.1 h;cases h;have⟨G,C,m⟩:=aH.1 (show ob (vF tb T) _=some S from m);have o:G=fs.toList:=by
   have⟨t',p,A⟩:=aH.1 (show ob (tb T) _=some G from C);rw[M]at p;cases p;have⟨N,j,A⟩:=aH.1 A;rw[q]at j;cases j;cases A;rfl
  subst o;have⟨f,y,z⟩:=Qy L H b;refine⟨f,?_,x,rfl,z⟩
  rw[Sy q]at s;unfold Program.built;simp only[K,s,c,OX B m];exact y
 |none=>
  rw[q]at h;have⟨e,Q,h⟩:=aH.1 (show ob (tdA t.desc) _=some g from h);have⟨te,F,h⟩:=aH.1 h;have⟨x,b,h⟩:=aH.1 h;cases h;have⟨f,y,z⟩:=Jx L H b;refine⟨f,?_,x,rfl,z⟩
  rw[Wl Q]at s;have⟨Y,D,E,_,_⟩:=(B.tab F).info;unfold Program.built;simp only[K,s,c,D,E];exact y
end
def Ip (f:iP) (w:V2) (l:UO):GO->Prop
 | .cells cs=>∃(c:Array V0) (T:V9),w.heap[l.b]?=some (.cells c T (0,0))/\c.size=l.size/\l.off+cs.length<=l.size/\∀(i:Nat) g,cs[i]?=some g->∃v,c[l.off+i]?=some v/\Rl f g v/\one v=true
 | .mp es=>∃(d:Array MapEntry) (a:Nat),w.heap[l.b]?=some (.map d a)/\d.size=es.length/\∀(i:Nat) e,es[i]?=some e->∃m,d[i]?=some m/\Rl f e.1 m.key/\Rl f e.2 m.val
theorem Ip.lt {c:iP} {w:V2} {l:UO} {o:GO} (h:Ip c w l o):l.b<w.heap.size:=by
 cases o with
 |cells d=>have⟨a,T,h,_⟩:=h;exact(zA8.1 h).1
 |mp e=>have⟨a,T,h,_⟩:=h;exact(zA8.1 h).1
theorem Ip.move {r d:iP} {w w':V2} {l:UO} {o:GO} (h:Ip r w l o) (q:r.le d) (e:w'.heap[l.b]?=w.heap[l.b]?):Ip d w' l o:=by
 cases o with
 |cells x=>have⟨f,T,j,k,n,u⟩:=h;exact⟨f,T,by rw[e];exact j,k,n,λi g p=>let ⟨v,a,b,c⟩:=u i g p;⟨v,a,b.le q,c⟩⟩
 |mp y=>have⟨t,s,j,k,n⟩:=h;exact⟨t,s,by rw[e];exact j,k,λi g p=>let ⟨m,a,b,c⟩:=n i g p;⟨m,a,b.le q,c.le q⟩⟩
structure FX where
 obs:List (Nat×Obj)
 env:List V0
def SP (a:FX) (w:V2) (O:Nat->Prop):Prop:=∀p∈a.obs,w.heap[p.1]?=some p.2/\¬O p.1
structure lJ (gs:FX) where
 w:World
 O:Nat->Prop
 ok:SP gs w O
def lJ.mine {a:FX} (b:lJ a) (k:Nat):Prop:=b.w.heap.size<=k\/b.O k
structure lP {gs:FX} (w0:lJ gs) (ρ:iP) (H:GH) (w:World):Prop where
 ext:HE w0.O w0.w w
 live:∀h o,H.get h=some o->∃l,ρ h=some l/\w0.mine l.b/\Ip ρ w l o
 inj:∀h h' o o' l l',H.get h=some o->H.get h'=some o'->ρ h=some l->ρ h'=some l'->l.b=l'.b->h=h'
 fresh:∀h,H.n<=h->ρ h=none
 dense:∀h,h<H.n->∃l,ρ h=some l
 /-- the block holds what was written last -/
 vers:∀h v l,H.ver h=some v->ρ h=some l->∃lv,ρ v=some lv/\w.heap[l.b]?=some lv.x/\H.get h=some lv.o
 /-- the first handles stand for the open values -/
 env:∀i v,gs.env[i]?=some v->∃l,ρ i=some l/\l.x = .cells #[v] 0 (0,0)
theorem lP.lt {c:FX} {e:lJ c} {w:V2} {f:iP} {H:GH} (R:lP e f H w) {h:Nat} {o:GO} (d:H.get h=some o):h<H.n:=by
 rcases zAy h H.n with a|a
 .exact a
 .have⟨l,b,_⟩:=R.live h o d;rw[R.fresh h a]at b;cases b
def QW (P:Program) {d:FX} (e:lJ d) (ρ:iP) (s:Sem V0) (w:V2) (g:GV) (c:GH):Prop:=∃v b a,s.run P w = .ok v b/\ρ.le a/\lP e a c b/\Rl a g v
def iP.upd (ρ:iP) (h:Nat) (l:UO):iP:=λk=>if k=h then some l else ρ k
theorem Fq {b:iP} {h:Nat} {l:UO} (c:b h=none):b.le (b.upd h l):=λk x a=>by
 unfold iP.upd;by_cases e:k=h
 .subst e;rw[c]at a;cases a
 .rw[if_neg e];exact a
theorem lP.new {L:FX} {B:lJ L} {w w':V2} {ρ:iP} {H:GH} (R:lP B ρ H w) {o:GO} {l:UO} (S:HE B.O B.w w') (C:∀h u k,H.get h=some u->ρ h=some k->w'.heap[k.b]?=w.heap[k.b]? /\ k.b≠l.b) (M:B.mine l.b)
    (U:Ip (ρ.upd H.n l) w' l o) (W:w'.heap[l.b]?=some l.x) (E:l.o=o:=by rfl):ρ.le (ρ.upd H.n l)/\lP B (ρ.upd H.n l) (H.new o) w':=by
  have m:ρ.le (ρ.upd H.n l):=Fq (R.fresh _ (zAf _));have T:∀h u,H.get h=some u->h≠H.n:=λh u g=>Nat.ne_of_lt (R.lt g);have d:∀h,h≠H.n->(ρ.upd H.n l) h=ρ h:=λh s=>by simp[iP.upd,s]
  have f:(ρ.upd H.n l) H.n=some l:=by simp[iP.upd]
  refine⟨m,S,?_,?_,?_,?_,?_,λi v e=>let ⟨l,a,b⟩:=R.env i v e;⟨l,m _ _ a,b⟩⟩
  · intro h u g;rw[xB]at g;by_cases e:h=H.n
    · subst e;rw[if_pos Z]at g;cases g;exact⟨l,f,M,U⟩
    · rw[if_neg e]at g;have⟨k,c,D,F⟩:=R.live h u g;exact⟨k,by rw[d h e];exact c,D,F.move m (C h u k g c).1⟩
  · intro h y J K G I g j A c r;rw[xB]at g j;by_cases e:h=H.n
    · by_cases q:y=H.n
      · rw[e,q]
      · rw[if_neg q]at j;rw[d y q]at c;subst e;rw[f]at A;cases A;exact absurd r.symm (C y K I j c).2
    · rw[if_neg e]at g;rw[d h e]at A;by_cases q:y=H.n
      · subst q;rw[f]at c;cases c;exact absurd r (C h J G g A).2
      · rw[if_neg q]at j;rw[d y q]at c;exact R.inj h y J K G I g j A c r
  · intro h s;have : h ≠ H.n := by
        have : H.n + 1 ≤ h := s;omega
    rw[d h this];exact R.fresh h (by
        have : H.n + 1 ≤ h := s;omega)
  · intro h s;have s:h<H.n+1:=s;by_cases e:h=H.n
    · subst e;exact⟨l,f⟩
    · rw[d h e];exact R.dense h V7
  · intro h v k z c;rw[UY]at z;by_cases e:h=H.n
    · subst e;rw[if_pos Z]at z;cases z;rw[f]at c;cases c;exact⟨l,f,W,by rw[xB,if_pos Z,E]⟩
    · rw[if_neg e]at z;rw[d h e]at c;have⟨X,N,P,Q⟩:=R.vers h v k z c;have⟨p,V,_⟩:=aH.1 (show ob (H.t.get h) _=some v from z);exact⟨X,m _ _ N,by rw[(C h p.2 k (by unfold GH.get;rw[V];rfl) c).1];exact P,by rw[xB,if_neg e];exact Q⟩
theorem lP.set {T:FX} {K:lJ T} {w w':V2} {m:iP} {H:GH} (R:lP K m H w) {h:Nat} {o q:GO} {l:UO} {X:Obj} (u:H.get h=some o) (A:m h=some l) (V:HE K.O K.w w') (S:∀k,k≠l.b->w'.heap[k]?=w.heap[k]?) (Y:Ip m w' l q) (J:w'.heap[l.b]?=some X):
  m.le (m.upd H.n ⟨l.b,l.off,l.size,X,q⟩)/\lP K (m.upd H.n ⟨l.b,l.off,l.size,X,q⟩) (H.set h q) w':=by
 have f:m.le (m.upd H.n ⟨l.b,l.off,l.size,X,q⟩):=Fq (R.fresh _ (zAf _));have c:∀k,k≠H.n->(m.upd H.n ⟨l.b,l.off,l.size,X,q⟩) k=m k:=λk g=>by simp[iP.upd,g]
 have j:(m.upd H.n ⟨l.b,l.off,l.size,X,q⟩) H.n=some ⟨l.b,l.off,l.size,X,q⟩:=by simp[iP.upd]
 have F:∀k x,(if k=h then some q else H.get k)=some x->∃y,H.get k=some y:=λk x J=>by
  by_cases e:k=h
  .subst e;exact⟨o,u⟩
  .rw[if_neg e]at J;exact⟨x,J⟩
 refine⟨f,V,?_,?_,?_,?_,?_,λi v e=>let ⟨l,a,b⟩:=R.env i v e;⟨l,f _ _ a,b⟩⟩
 .intro k x g;rw[xC]at g;by_cases e:k=h
  .subst e;rw[if_pos Z]at g;cases g;have⟨r,d,M,_⟩:=R.live k o u;rw[A]at d;cases d;exact⟨l,f _ _ A,M,Y.move f Z⟩
  .rw[if_neg e]at g;have⟨r,d,M,P⟩:=R.live k x g;refine⟨r,f _ _ d,M,P.move f (S _ λL=>e (R.inj k h x o r l g u d A L))⟩
 .intro k Q o1 o2 l1 l2 G I B C N;rw[xC]at G I;have⟨y1,D⟩:=F k o1 G;have⟨y2,E⟩:=F Q o2 I;rw[c k (Nat.ne_of_lt (R.lt D))]at B;rw[c Q (Nat.ne_of_lt (R.lt E))]at C;exact R.inj k Q y1 y2 l1 l2 D E B C N
 .intro k g;have W:H.n+1<=k:=g;rw[c k V7];exact R.fresh k V7
 .intro k g;have g:k<H.n+1:=g;by_cases e:k=H.n
  .subst e;exact⟨_,j⟩
  .rw[c k e];exact R.dense k V7
 .intro k v r s d;rw[UZ]at s;by_cases e:k=h
  .subst e;rw[if_pos Z]at s;cases s;rw[c k (Nat.ne_of_lt (R.lt u)),A]at d;cases d;exact⟨_,j,J,by rw[xC,if_pos Z]⟩
  .rw[if_neg e]at s;have⟨p,hp,_⟩:=aH.1 (show ob (H.t.get k) _=some v from s);have z:H.get k=some p.2:=by unfold GH.get;rw[hp];rfl
   rw[c k (Nat.ne_of_lt (R.lt z))]at d;have⟨lv,G,I,U⟩:=R.vers k v r s d;exact⟨lv,f _ _ G,by rw[S r.b λL=>e (R.inj k h p.2 o r l z u d A L)];exact I,by rw[xC,if_neg e];exact U⟩
theorem lP.del {i:FX} {g:lJ i} {w:V2} {ρ:iP} {H:GH} (R:lP g ρ H w) (h:Nat):lP g ρ (H.del h) w:=by
 have b:∀k x,(H.del h).get k=some x->H.get k=some x:=λk x a=>by
  rw[Kj]at a;by_cases e:k=h
  .rw[if_pos e]at a;cases a
  .rw[if_neg e]at a;exact a
 exact⟨R.ext,λk x a=>R.live k x (b k x a),λk n r s o p d f=>R.inj k n r s o p (b _ _ d) (b _ _ f),R.fresh,R.dense,λk v l c m=>by
  rw[UX]at c;by_cases e:k=h
  .rw[if_pos e]at c;cases c
  .rw[if_neg e]at c;have⟨q,d,f,j⟩:=R.vers k v l c m;exact⟨q,d,f,by rw[Kj,if_neg e];exact j⟩,R.env⟩
theorem lP.ext' {g:FX} {f:lJ g} {w w':V2} {ρ:iP} {H:GH} (R:lP f ρ H w) (e:UN w w'):lP f ρ H w':=
 ⟨R.ext.trans e,λh o k=>let ⟨l,a,b,c⟩:=R.live h o k;⟨l,a,b,c.move (iP.le_refl _) (e.block _ c.lt)⟩,R.inj,R.fresh,R.dense,λh v l n m=>by
  have⟨p,i,d,j⟩:=R.vers h v l n m;exact⟨p,i,(by rw[e.block _ (zA8.1 d).1];exact d),j⟩,R.env⟩
theorem lP.mono {i c:FX} {k:lJ i} {e:lJ c} {w w':V2} {f a:iP} {H b:GH} (R:lP k f H w) (g:lP e a b w') (d:f.le a):H.n<=b.n:=by
 rcases zAy b.n H.n with h|h
 .have⟨l,j⟩:=R.dense _ h;have:=g.fresh _ (zAf _);rw[d _ _ j]at this;cases this
 .exact h
def Zu (a:iP) (H:GH) (k:Nat):Prop:=∃h o l,H.get h=some o/\a h=some l/\l.b=k
theorem lP.glo {f:FX} {d:lJ f} {w:V2} {j:iP} {H:GH} (R:lP d j H w):SP f w (Zu j H):=λp n=>by
 have⟨g,i⟩:=d.ok p n;have c:p.1<d.w.heap.size:=(zA8.1 g).1;refine⟨by rw[R.ext.block p.1 c i];exact g,fun⟨h,o,l,k,m,e⟩=>?_⟩
 have⟨q,b,a,_⟩:=R.live h o k;rw[m]at b;cases b;rw[e]at a;rcases a with a|a
 .omega
 .exact i a
def lP.base {a:FX} {b:lJ a} {w:V2} {ρ:iP} {H:GH} (R:lP b ρ H w):lJ a:=⟨w,Zu ρ H,R.glo⟩
def lJ.of {a:FX} (w:V2) (h:SP a w λ_=>False):lJ a:=⟨w,λ_=>False,h⟩
def noG:FX:=⟨[],[]⟩
def lJ.one (w:V2):lJ noG:= .of w λ_ h=>absurd h List.not_mem_nil
theorem lP.rebase {e:FX} {f:lJ e} {w:V2} {d:iP} {H:GH} (R:lP f d H w):lP R.base d H w:=
 ⟨HE.refl _,λh o b=>let ⟨l,a,_,c⟩:=R.live h o b;⟨l,a,.inr ⟨h,o,l,b,a,rfl⟩,c⟩,R.inj,R.fresh,R.dense,R.vers,R.env⟩
theorem lP.back {t:FX} {n:lJ t} {w m:V2} {p d:iP} {H q:GH} (R:lP n p H w) (a:lP R.base d q m):lP n d q m/\∀k,k<w.heap.size->¬Zu p H k->m.heap[k]?=w.heap[k]?:=by
 have s:∀k,Zu p H k->n.mine k:=λk ⟨h,o,l,g,j,e⟩=>by
  have⟨v,c,b,_⟩:=R.live h o g;rw[j]at c;cases c;rw[<-e];exact b
 refine⟨⟨⟨a.ext.os.trans R.ext.os,a.ext.tape.trans R.ext.tape,a.ext.output.trans R.ext.output,zAz R.ext.size a.ext.size,λk f r=>?_⟩,λh o g=>?_,a.inj,a.fresh,a.dense,a.vers,a.env⟩,λk f i=>a.ext.block k f i⟩
 .rw[a.ext.block k (zAw f R.ext.size) (λi=>by rcases s k i with h|h;exact absurd h V7;exact r h)];exact R.ext.block k f r
 .have⟨l,j,b,u⟩:=a.live h o g;refine⟨l,j,?_,u⟩
  rcases b with b|b
  .exact .inl (zAz R.ext.size b)
  .exact s _ b
section
variable {P:Program} {tb:TB} {ρ:iP} {V U W:V0} {v u t g:GV} {gs:FX} {w0:lJ gs} {w:V2} {H H':GH}
theorem lP.alloc (R:lP w0 ρ H w) {cs:V6 GV} {a:Array V0} (T:V9) (f:WC ρ cs a):
  ∃b,ρ.le b/\b=ρ.upd H.n ⟨w.heap.size,0,a.size,.cells a T,.cells cs⟩/\lP w0 b (H.new (.cells cs)) (w.alloc (.cells a T)):=by
 have e:UN w (w.alloc (.cells a T)):=(Below.refl _ _).alloc (zAf _) _;have h:=R.new (o:= .cells cs) (l:=⟨w.heap.size,0,a.size,.cells a T,.cells cs⟩) (R.ext.trans e) (λh q s d p=>by
  have⟨l,c,_,m⟩:=R.live h q d;rw[p]at c;cases c;exact⟨e.block _ m.lt,Nat.ne_of_lt m.lt⟩) (.inl R.ext.size) (by
  refine⟨a,T,heap_alloc_new w _,rfl,by have:=f.r.len;simp at this;simp[this],λi g d=>?_⟩
  have⟨x,k,j⟩:=f.r.get d;rw[zAj]at k;exact⟨x,by simpa using k,j.le (Fq (R.fresh _ (zAf _))),RF f.one k⟩) (heap_alloc_new w _)
 exact⟨_,h.1,rfl,h.2⟩
theorem aeK {T:V9} (R:lP w0 ρ H w) (k:Rl ρ v V) (h:Wq v H=some (g,H')):QW P w0 ρ (Instr.box T V) w g H':=by
 have⟨c,i,h⟩:=aH.1 (show ob v.cells _=some (g,H')from h);rw[mR]at h;cases h;have⟨n,e,j,f⟩:=k.cells i;obtain⟨m,b,rfl,d⟩:=R.alloc T (cs:=c) (a:=V.cells) (by rw[e];exact⟨j,f⟩);refine⟨_,_,_,?_,b,d,.ptr (l:=⟨w.heap.size,0,V.cells.size,.cells V.cells T,.cells c⟩) 0 (by simp[iP.upd])⟩
 simp[Instr.box,newVar,newRow]
theorem MC (e:iR P tb) {T:V9} (R:lP w0 ρ H w) (h:Jm tb T H=some (g,H')):QW P w0 ρ (Instr.alloc T true (.tuple #[])) w g H':=by
 have⟨j,i,h⟩:=aH.1 (show ob (Ha tb T) _=some (g,H')from h);rw[mR]at h;cases h;have⟨d,m,f,c⟩:=zV (ρ:=ρ) e i;obtain⟨k,a,rfl,b⟩:=R.alloc T c;exact⟨_,_,_,Mt w f,a,b,.ptr (l:=⟨w.heap.size,0,d.zero.cells.size,.cells d.zero.cells T,.cells j⟩) 0 (by simp[iP.upd])⟩
theorem lP.cells (R:lP w0 ρ H w) {h:Nat} {cs:V6 GV} (b:H.cells h=some cs) {l:UO} (c:ρ h=some l):Ip ρ w l (.cells cs):=by
 have⟨e,a,_,d⟩:=R.live h _ (lO.1 b);rw[c]at a;cases a;exact d
theorem Ps (hG:iR P tb) {T:V9} (R:lP w0 ρ H w) (X:Rl ρ v V) (h:Hy tb T v H=some g):∃(x:V0) (p:Nat×Nat) (l:UO),v = .ptr p.1 p.2/\ρ p.1=some l/\(∃o,H.get p.1=some o)/\Rl ρ g x/\∀E,E.heap[l.b]?=w.heap[l.b]? -> (Instr.loadAt T V).run P E = .ok x E:=by
 have⟨p,S,h⟩:=aH.1 (show ob v.asP _=some g from h);have⟨G,z,h⟩:=aH.1 h;have⟨t,ht,h⟩:=aH.1 h;have C:=IK S;have A:=lO.1 z;rw[IK S]at X;obtain⟨l,K,rfl⟩:=X.ptr_inv;have⟨I,T',N,aa,Q,c⟩:=R.cells z K;have M:=hG.tab ht;unfold GA at h;cases F:Bh t.desc with
 | true =>
  rw[F]at h;have⟨r,hs,h⟩:=aH.1 h;cases h;obtain⟨O,rfl⟩:=Sk hs;let n:=((I.toList.drop (l.off+p.2)).take t.size)
  have m:n.length=t.size:=by simp[n];omega
  have D:zX ρ ((G.drop p.2).take t.size) n:=⟨by rw[m];simp;omega,λi a b d e=>by
   simp only[n]at e;rw[zAn]at d e;by_cases k:i<t.size
   .rw[if_pos k,zAq]at d e;have⟨x,s,J,_⟩:=c _ _ d;rw[zAj,show l.off+p.2+i=l.off+(p.2+i) by omega,s]at e;cases e;exact J
   .rw[if_neg k]at d;cases d⟩
  have B:∀x∈n,one x=true:=λx q=>by
   have⟨i,k⟩:=List.mem_iff_getElem?.1 q;have L:=bM k;have d:((G.drop p.2).take t.size)[i]?=some (G[p.2+i]'V7):=by
    rw[zAn,Q8,zAq,zA1 V7]
   simp only[n]at k;rw[zAn,Q8,zAq,zAj,show l.off+p.2+i=l.off+(p.2+i) by omega]at k;have⟨y,s,_,Y⟩:=c (p.2+i) _ (zA1 V7);rw[s]at k;cases k;exact Y
  refine⟨_,p,l,C,K,⟨_,A⟩,Nu D B,λE f=>?_⟩
  rw[N]at f;refine GB M F m (λj x q=>?_);rw[gQ];have L:=bM q;simp only[n]at q;rw[zAn,Q8,zAq,zAj]at q;simp[World.cell?,f,q]
 |false=>
  rw[F]at h;rw[cond_false,Ab]at h;have⟨x,s,J,_⟩:=c _ _ h;exact⟨x,p,l,C,K,⟨_,A⟩,J,λE f=>zQ M F (by rw[N]at f;simp[World.cell?,f,s])⟩
theorem MF (hG:iR P tb) {T:TypeId} (R:lP w0 ρ H w) (X:Rl ρ v V) (hu:Rl ρ u U) (h:KE tb T v u H=some (g,H')):g = .un/\∃w' B,(Instr.storeAt T V U).run P w = .ok () w'/\ρ.le B/\lP w0 B H' w':=by
 obtain⟨p,hp,h⟩:=aH.1 (show ob v.asP _=some (g,H')from h);obtain⟨cs,n,h⟩:=aH.1 h;obtain⟨t,ht,h⟩:=aH.1 h;obtain⟨E,N,h⟩:=aH.1 h;obtain⟨K,h⟩:=bZ.1 h;obtain⟨O,h⟩:=qM.1 h;obtain⟨c1,r,h⟩:=aH.1 h;rw[CW]at h;cases h;refine⟨rfl,?_⟩
 rw[IK hp]at X;obtain⟨l,J,rfl⟩:=X.ptr_inv;obtain⟨c,C,F,ac,S,m⟩:=R.cells n J;obtain⟨f,eU,z,j⟩:=hu.cells N;have hT:=hG.tab ht;have d:E.length=t.size:=zA4 K;have ad:E.length=f.length:=z.len;have L:E≠[]:=by intro e;rw[e]at d;simp at d;rw[<-d]at O;cases O
 obtain⟨Y,p2,p3⟩:=NL r;have Y:=Y L;have s:=run_storeCells_at P l.b (l.off+p.2) C f 0 c w F (by omega) (λx o=>uR (j x o));simp only[Nat.add_zero]at s;refine⟨w.setRow l.b (c.toList.take (l.off+p.2)++f++c.toList.drop (l.off+p.2+f.length)).toArray,_,?_,R.set (lO.1 n) J ?_ (λk I=>setRow_other w l.b k _ I) ?_ (setRow_heap w l.b _ _ C _ F)⟩
 .have hs:=hT.run_size w;simp only[Instr.storeAt,Instr.sureAddr,storeVar,eU];have e:f.toArray.size=t.size:=by simp;omega
  simp[hs,e,s]
 .obtain⟨l',q,a,_⟩:=R.live _ _ (lO.1 n);rw[J]at q;cases q;exact⟨R.ext.os,R.ext.tape,R.ext.output,by simpa using R.ext.size,λk I Q=>by
   rw[setRow_other w l.b k _ (λe=>by subst e;rcases a with a|a;exact absurd a (by omega);exact Q a)];exact R.ext.block k I Q⟩
 .refine⟨_,C,setRow_heap w l.b _ _ C _ F,?_,by omega,λi x o=>?_⟩
  .simp;omega
  .rw[p3 i]at o;have aa:c.toList.length=c.size:=by simp
   have A:(c.toList.take (l.off+p.2)++f++c.toList.drop (l.off+p.2+f.length)).toArray[l.off+i]?=if p.2<=i/\i<p.2+f.length then f[i - p.2]? else c[l.off+i]?:=by
    rw[List.getElem?_toArray,zAr];by_cases G:i<p.2
    .rw[if_neg (by omega),zAe (by simp;omega),zAn,if_pos (by omega),zAj]
    .rw[zA9 (by simp;omega),zB2];have e1:min (l.off+p.2) c.toList.length=l.off+p.2:=by omega
     rw[e1];by_cases ab:i<p.2+f.length
     .rw[if_pos (by omega),zAe (by omega)];congr 1;omega
     .rw[if_neg (by omega),zA9 (by omega),zAq,zAj];congr 1;omega
   by_cases G:p.2<=i/\i<p.2+E.length
   .rw[if_pos G]at o;obtain⟨y,D,M⟩:=z.get o;exact⟨y,by rw[A,if_pos (by omega)];exact D,M,j y (zAo D)⟩
   .rw[if_neg G]at o;obtain⟨y,D,M⟩:=m i x o;exact⟨y,by rw[A,if_neg (by omega)];exact D,M⟩
end
section
variable {P:Program} {tb:TB} {ρ:iP} {V U W:V0} {v u t g:GV} {gs:FX} {w0:lJ gs} {w:V2} {H H':GH}
theorem Lh (z:V6 GV):∀n,(UT z n).length=n*z.length
 |0=>by show([]:V6 GV).length=_;simp
 |n+1=>by
  have:UT z (n+1)=z++UT z n:=rfl;rw[this,zA0,Lh z n,zAt];omega
theorem XK (z:V6 GV) (b:0<z.length):∀(n i:Nat),i<n*z.length->(UT z n)[i]?=z[i%z.length]?
 |0,i,h=>by simp at h
 |n+1,i,h=>by
  have:UT z (n+1)=z++UT z n:=rfl;rw[this];by_cases a:i<z.length
  .rw[zAe a,Nat.mod_eq_of_lt a]
  .rw[zA9 V7,XK z b n (i - z.length) (by have:(n+1)*z.length=n*z.length+z.length:=Nat.succ_mul n z.length;omega),<-Nat.mod_eq_sub_mod V7]
theorem Li {c:V6 GV} {z:Array V0} (f:WC ρ c z) (l:0<c.length) (n:Nat):WC ρ (UT c n) ((Array.range (n*c.length)).map (z[· % z.size]!)):=by
 have o:c.length=z.size:=by have:=f.r.len;simpa using this
 have q:0<z.size:=V7
 have d:∀i,i<n*c.length->z[i%z.size]?=some (z[i%z.size]!):=λi _=>by
  have p:i%z.size<z.size:=Nat.mod_lt _ q;rw[getElem!_pos z (i%z.size) p];simp
 refine⟨⟨by simp[Lh],λi a b h m=>?_⟩,λx k=>?_⟩
 .have e:=bM h;rw[Lh]at e;rw[XK c l n i e]at h;have j:some (z[i%z.size]!)=some b:=by
   rw[<-m,zAj];simp[e]
  cases j;refine f.r.at' (i%c.length) a _ h ?_;rw[zAj,o];exact d i e
 .simp only[Array.toList_map,zB5]at k;obtain⟨i,e,rfl⟩:=k;have e:i<n*c.length:=by simpa using e
  exact RF f.one (d i e)
theorem Ku {c:Nat}:∀{l:V6 (Nat×GV)} {b a:V6 GV},Ml c l b=some a->a.length=b.length
 | [],b,a,h=>by cases h;rfl
 |p::l,b,a,h=>by
  have⟨d,e,h⟩:=aH.1 (show ob p.2.cells (λd=>bif Nat.beq d.length c then(bif Nat.beq c 0 then none else ob (KU d (Nat.mul p.1 c) b) (Ml c l))else none)=some a from h);have⟨_,h⟩:=bZ.1 h;have⟨_,h⟩:=qM.1 h;have⟨i,f,h⟩:=aH.1 h;rw[Ku h];exact(NL f).2.1
theorem Ws (hG:iR P tb) {T:TypeId} {n:Nat} {l:List (Nat×GV)} {parts:List (Nat×V0)} (R:lP w0 ρ H w) (hp:RlP ρ l parts) (h:JG tb T n l H=some (g,H')):QW P w0 ρ (Instr.buildSlice T n parts.toArray) w g H':=by
 obtain⟨te,hte,h⟩:=aH.1 (show ob (EA tb T) _=some (g,H')from h);obtain⟨zc,hz,h⟩:=aH.1 h;obtain⟨hlen,h⟩:=bZ.1 h;obtain⟨hbig,h⟩:=bZ.1 h;obtain⟨h0,h⟩:=qM.1 h;obtain⟨cs,hfill,h⟩:=aH.1 h;rw[mR]at h;cases h;obtain⟨⟨d,hd,hde⟩,hE,htab⟩:=Bq hG hte;obtain⟨dz,hdz,_,hC⟩:=zV (ρ:=ρ) hG hz;rw[htab]at hdz;cases hdz;have hlen:zc.length=te.2.size:=zA4 hlen;have h0:te.2.size≠0:=λe=>by rw[e]at h0;cases h0
 have hbig:n*te.2.size<16777216:=by simpa [zAp]using hbig
 have hrep:=Li hC (by omega) n;rw[hlen]at hrep;obtain⟨a',f1,f2⟩:=Jx hp hrep hfill;obtain⟨ρ',hle,rfl,R'⟩:=R.alloc te.1 f2;have hsz:a'.size=n*te.2.size:=by
  have e1:=f2.r.len;have:cs.length=(UT zc n).length:=Ku hfill;rw[this,Lh,hlen]at e1;simp at e1;omega
 refine⟨_,_,_,?_,hle,R',.sl (l:=⟨w.heap.size,0,a'.size,.cells a' te.1,.cells cs⟩) (cap:=n) (A:=⟨w.heap.size,0,none⟩) (by simp[iP.upd]) (zAf _) (.inr ⟨rfl,by simp[hsz]⟩)⟩
 have hu:=hd.run_und w;rw[hde]at hu;by_cases hn:n*te.2.size=0
 .have hz0:n=0:=by rcases Nat.mul_eq_zero.1 hn with h|h;exact h;exact absurd h h0
  subst hz0;have e0:(Array.range (0*te.2.size)).map (te.2.zero.cells[· % te.2.zero.cells.size]!)=(#[]:Array V0):=by simp
  rw[e0]at f1;have e1:(Array.range 0).map (λ_=>(default:V0)) = #[]:=by simp
  simp[Instr.buildSlice,hu,hE.run_size w,newRow];simp[e1,f1]
 .simp[Instr.buildSlice,hu,hE.run_size w,hE.run_zero w,hn,f1,newRow,show¬(16777216<n*te.2.size) by omega]
theorem ab_ (D:iR P tb) {T:V9} (R:lP w0 ρ H w) (F:Rl ρ v V) (E:Rl ρ u U) (h:UA tb T v u H=some (g,H')):QW P w0 ρ (Instr.makeSlice T V U) w g H':=by
 have⟨a,B,h⟩:=aH.1 (show ob (EA tb T) _=some (g,H')from h);have⟨I,hz,h⟩:=aH.1 h;have⟨k,Q,h⟩:=aH.1 h;have⟨c,N,h⟩:=aH.1 h;have⟨f,h⟩:=bZ.1 h;have⟨n,S,h⟩:=aH.1 h;have⟨b,h⟩:=bZ.1 h;have⟨m,h⟩:=bZ.1 h;have⟨p,h⟩:=bZ.1 h;have⟨r,h⟩:=qM.1 h;rw[aaE,mR]at h;cases h;have⟨⟨d,O,x⟩,L,q⟩:=Bq D B;have⟨dz,o,_,K⟩:=zV (ρ:=ρ) D hz;rw[q]at o;cases o;have b:I.length=a.2.size:=zA4 b;have r:a.2.size≠0:=λe=>by rw[e]at r;cases r
 have m:n*a.2.bytes<16777216:=by simpa [zAp]using m
 have p:n<16777216:=by simpa [zAp]using p
 rw[qE Q]at F;rw[qE N]at E;rw[Mh]at f;have f:=of_decide_eq_true f;rw[F.int_inv,E.int_inv,<-f,Ko S];have i:=Li K V7 n;rw[b]at i;obtain⟨aa,z,rfl,J⟩:=R.alloc a.1 i;have⟨G,y,Y,M,C⟩:=L.info;have j:=O.und;rw[x]at j;have s:(G.bytes:Int)*(n:Int)<=281474976710656:=by
  have e:(a.2.bytes:Int)*(n:Int)=((n*a.2.bytes:Nat):Int):=by rw[Nat.mul_comm];simp
  rw[M,e];omega
 have X:=run_make (P:=P) w T a.1 G a.2.zero j y C k.1 c.1 n n V7 (Int.le_refl _) s V7;refine⟨_,_,_,?_,z,J,.sl (l:=⟨w.heap.size,0,((Array.range (n*a.2.size)).map (a.2.zero.cells[· % a.2.zero.cells.size]!)).size,.cells ((Array.range (n*a.2.size)).map (a.2.zero.cells[· % a.2.zero.cells.size]!)) a.1,.cells (UT I n)⟩) (cap:=n) (A:=⟨w.heap.size,0,none⟩) (by simp[iP.upd]) (zAf _) (.inr ⟨rfl,V8⟩)⟩
 rw[X];simp[madeCells,Y]
theorem afE {o:V1 GV} {O:V1 V0} {d n:Nat} (e:(o=none/\O=none)\/∃g x,o=some g/\O=some x/\Rl ρ g x) (h:vB o d=some n):(o=none/\O=none/\n=d)\/∃k:IntKind,O=some (.int k n):=by
 rcases e with⟨rfl,rfl⟩|⟨g,x,rfl,rfl,b⟩
 .cases h;exact .inl ⟨rfl,rfl,rfl⟩
 .have⟨a,c,h⟩:=aH.1 (show ob g.asI _=some n from h);rw[qE c]at b;exact .inr ⟨a.1,by rw[b.int_inv,Ko h]⟩
def RlO (ρ:iP) (o:V1 GV) (O:V1 V0):Prop:=(o=none/\O=none)\/∃g x,o=some g/\O=some x/\Rl ρ g x
theorem HZ {sl:V4} {len cap l h:Nat} {j i:V1 GV} {e d:V1 V0} (c:RlO ρ j e) (b:RlO ρ i d) (k:vB j 0=some l) (m:vB i len=some h) (a:l<=h) (f:h<=cap) (w:V2):
  (Instr.sliceBounds sl len cap e d none).run P w = .ok (l,h,cap) w:=by
 rcases afE c k with⟨_,rfl,rfl⟩|⟨n,rfl⟩<;>rcases afE b m with⟨_,rfl,rfl⟩|⟨o,rfl⟩
 .simp[Instr.sliceBounds]
 .simp[Instr.sliceBounds,Instr.sliceBound,asIntOf,f]
 .simp[Instr.sliceBounds,Instr.sliceBound,asIntOf,a]
 .simp[Instr.sliceBounds,Instr.sliceBound,asIntOf,a,f]
theorem QQ (G:iR P tb) {T:V9} {Y Q:V1 GV} {LO HI:V1 V0} (R:(∃(w0:lJ gs) (w:V2),lP w0 ρ H w)\/∀t,tb T=some t->tdA t.desc=none) (z:Rl ρ v V) (x:RlO ρ Y LO) (o:RlO ρ Q HI) (h:Jn tb T v Y Q H=some g):HA P ρ (Instr.sliceAt T V LO HI none) g:=by
 have⟨l,J,h⟩:=aH.1 (show ob (vB Y 0) _=some g from h);have⟨t,ht,h⟩:=aH.1 h;have I:=G.tab ht;cases S:v.asStr with
 | some s =>
  rw[S]at h;have⟨e,D,h⟩:=aH.1 (show ob (vB Q s.2) _=some g from h);have⟨hd,h⟩:=bZ.1 h;have⟨d,h⟩:=bZ.1 (show(bif Nat.ble l e then _ else none)=some g from h);have⟨a,h⟩:=bZ.1 h;simp only[FK]at h;cases h;have d:l<=e:=by simpa using d
  have a:e<=s.2:=by simpa using a
  rw[xI S]at z;obtain⟨r,rfl,K,e2⟩:=z.str_inv;have j:r.size=s.2:=by rw[e2];exact Lib.size_eq r
  have hx:=Lib.extract_data r l e;refine⟨.string (r.extract l e),?_,λw=>?_⟩
  .have:Rl ρ (.str (qO (cE (r.extract l e))) (cE (r.extract l e)).length) (.string (r.extract l e)):= .str _;have e3:cE (r.extract l e)=((cE r).drop l).take (e - l):=hx;rw[e3]at this;rw[K,aaB];have e4:(((cE r).drop l).take (e - l)).length=Nat.sub e l:=by
    simp only[zB2,List.length_drop,<-e2];show _=e - l;omega
   rw[e4]at this;exact this
  .have m:=I.run_und w;rw[FU hd]at m;have n:=HZ (P:=P) (sl:=false) (cap:=s.2) x o J D d a w;simp[Instr.sliceAt,m,Instr.slice,j,n]
 | none =>
  rw[S]at h;cases M:v.asS with
  | some s =>
   simp only[M]at h;have⟨E,B,h⟩:=aH.1 (show ob (tdS t.desc) _=some g from h);have⟨f,k,h⟩:=aH.1 h;have⟨e,D,h⟩:=aH.1 h;have⟨j,h⟩:=bZ.1 (show(bif Nat.beq f.size s.2.2.2 then _ else none)=some g from h);have⟨d,h⟩:=bZ.1 h;have⟨a,h⟩:=bZ.1 h;simp only[FK]at h;cases h;have j:f.size=s.2.2.2:=zA4 j;have d:l<=e:=by simpa using d
   have a:e<=s.2.2.1:=by simpa using a
   rw[GN M]at z;obtain⟨i,c,A,q,rfl,hc,ha⟩:=z.sl_inv;refine⟨.slice (if c=l then some A else(some A).map (·.add (l*f.size))) (e - l) (c - l),?_,λw=>?_⟩
   .have K:(if c=l then some A else(some A).map (·.add (l*f.size)))=some (if c=l then A else A.add (l*f.size)):=by split<;>rfl
    rw[K];refine .sl q (show e - l<=c - l by omega) ?_;by_cases C:c - l=0
    .exact .inl C
    .right;rw[Q0];rcases ha with ha|⟨rfl,n⟩
     .omega
     .rw[gQ];refine⟨by show _=(⟨i.b,i.off+(s.2.1+l*f.size),none⟩:Addr);rw[Nat.add_assoc],?_⟩
      have:c*s.2.2.2=l*f.size+(c - l)*f.size:=by rw[<-j,<-zAt];congr 1;omega
      show i.off+(s.2.1+l*f.size)+(c - l)*f.size<=i.size;omega
   .have m:=I.run_und w;rw[KD B]at m;have n:=HZ (P:=P) (sl:=true) (cap:=c) x o J D d V7 w;simp[Instr.sliceAt,m,Instr.slice,n,(G.tab k).run_size w]
  | none =>
   simp only[M]at h;cases X:v.isSnil with
   |true=>
    rw[X]at h;have⟨E,B,h⟩:=aH.1 (show ob (tdS t.desc) _=some g from h);have⟨f,k,h⟩:=aH.1 h;have⟨e,D,h⟩:=aH.1 h;have⟨F,h⟩:=bZ.1 h;have⟨L,h⟩:=bZ.1 h;cases h;have F:l=0:=zA4 F;have L:e=0:=zA4 L;subst F L;rw[Bu X]at z;rw[z.snil_inv];refine⟨_,.snil,λw=>?_⟩
    have m:=I.run_und w;rw[KD B]at m;have n:=HZ (P:=P) (sl:=true) (len:=0) (cap:=0) x o J D (zAf _) (zAf _) w;simp[Instr.sliceAt,m,Instr.slice,n,(G.tab k).run_size w]
   |false=>
   rw[X]at h;have⟨p,hp,h⟩:=aH.1 (show ob v.asP _=some g from h);have⟨E,B,h⟩:=aH.1 h;have⟨f,k,h⟩:=aH.1 h;have⟨e,D,h⟩:=aH.1 h;have⟨cs,N,h⟩:=aH.1 h;have⟨y,h⟩:=bZ.1 h;have⟨d,h⟩:=bZ.1 (show(bif Nat.ble l e then _ else none)=some g from h);have⟨a,h⟩:=bZ.1 h;have⟨F,h⟩:=qM.1 h;simp only[FK]at h;cases h;have y:p.2+E.1*f.size<=cs.length:=by simpa using y
   have d:l<=e:=by simpa using d
   have a:e<=E.1:=by simpa using a
   rw[IK hp]at z;obtain⟨i,q,rfl⟩:=z.ptr_inv;rcases R with⟨w0,w,R⟩|R
   rotate_left
   .rw[R t ht]at B;cases B
   have⟨ab,T',n,aa,O,_⟩:=R.cells N q;refine⟨.slice (some (if E.1=l then⟨i.b,i.off+p.2,none⟩else Addr.add ⟨i.b,i.off+p.2,none⟩ (l*f.size))) (e - l) (E.1 - l),?_,λw=>?_⟩
   .refine .sl q (show e - l<=E.1 - l by omega) ?_;by_cases C:E.1 - l=0
    .exact .inl C
    .right;rw[Q0,gQ];refine⟨by show _=(⟨i.b,i.off+(p.2+l*f.size),none⟩:Addr);rw[Nat.add_assoc],?_⟩
     have:E.1*f.size=l*f.size+(E.1 - l)*f.size:=by rw[<-zAt];congr 1;omega
     show i.off+(p.2+l*f.size)+(E.1 - l)*f.size<=i.size;omega
   .have m:=I.run_und w;rw[Wl B]at m;have n:=HZ (P:=P) (sl:=false) (cap:=E.1) x o J D d a w;simp[Instr.sliceAt,m,Instr.sureAddr,n,(G.tab k).run_size w]
end
section
variable {P:Program} {tb:TB} {ρ:iP} {V U W:V0} {v u t g:GV} {gs:FX} {w0:lJ gs} {w:V2} {H H':GH}
structure Yh (ρ:iP) (w:World) (sz n:Nat) (r:List GV) (V:V0) (ns:List V0):Prop where
 rel:zX ρ r ns
 len:ns.length=n*sz
 one:∀x∈ns,Go.Sx.one x=true
 val:∃base cap,V = .slice base n cap/\n<=cap/\((base=none/\n=0/\cap=0)\/∃A,base=some A/\∀(j:Nat) x,ns[j]?=some x->w.cell? (A.add j)=some x)
theorem HO (R:lP w0 ρ H w) {m:Nat} {p:Nat×V6 GV} (F:Rl ρ v V) (h:zB H m v=some p):∃k,Yh ρ w m p.1 p.2 V k:=by
 unfold zB at h;cases K:v.isSnil with
 |true=>
  rw[K]at h;cases h;rw[Bu K]at F;exact⟨[],.nil,V8,λx f=>by simp at f,none,0,F.snil_inv,zAf _,.inl ⟨rfl,rfl,rfl⟩⟩
 | false =>
  rw[K]at h;have⟨s,hs,h⟩:=aH.1 (show ob v.asS _=some p from h);have⟨D,h⟩:=bZ.1 h;have⟨cs,I,h⟩:=aH.1 h;have⟨r,hr,h⟩:=aH.1 h;cases h;have D:s.2.2.2=m:=zA4 D;obtain⟨N,rfl⟩:=Sk hr;have N:s.2.1+s.2.2.1*m<=cs.length:=N;rw[GN hs]at F;obtain⟨l,G,A,Y,rfl,S,M⟩:=F.sl_inv;have⟨o,T,X,J,O,e⟩:=R.cells I Y;let k:=(o.toList.drop (l.off+s.2.1)).take (s.2.2.1*m);have n:k.length=s.2.2.1*m:=by simp[k];omega
  have C:zX ρ ((cs.drop s.2.1).take (s.2.2.1*m)) k:=⟨by rw[n];simp;omega,λi a b c d=>by
   simp only[k]at d;rw[zAn]at c d;by_cases E:i<s.2.2.1*m
   .rw[if_pos E,zAq]at c d;have⟨x,q,z,_⟩:=e _ _ c;rw[zAj,show l.off+s.2.1+i=l.off+(s.2.1+i) by omega,q]at d;cases d;exact z
   .rw[if_neg E]at c;cases c⟩
  have B:∀(j:Nat) x,k[j]?=some x->j<s.2.2.1*m/\o[l.off+(s.2.1+j)]?=some x:=λj x f=>by
   have aa:=bM f;simp only[k]at f;rw[zAn,Q8,zAq,zAj,show l.off+s.2.1+j=l.off+(s.2.1+j) by omega]at f;exact⟨V7,f⟩
  refine⟨k,C,n,λx f=>?_,_,G,rfl,S,.inr ⟨A,rfl,λj x f=>?_⟩⟩
  .have⟨i,E⟩:=List.mem_iff_getElem?.1 f;have⟨q,z⟩:=B i x E;have⟨y,L,_,Q⟩:=e (s.2.1+i) _ (zA1 V7);rw[z]at L;cases L;exact Q
  .have⟨q,z⟩:=B j x f;rcases M with M|⟨rfl,_⟩
   .have:s.2.2.1=0:=V7
    rw[this]at q;simp at q
   .rw[gQ,show l.off+s.2.1+j=l.off+(s.2.1+j) by omega];simp[World.cell?,X,z]
theorem Yh.src {e n:Nat} {r:V6 GV} {b:V6 V0} (h:Yh ρ w e n r V b) {T E:V9} (d:P.underlying T=some (.slice E)):Src P e T V n b w:=by
 obtain⟨base,c,rfl,_,i⟩:=h.val;have a:∀x∈b,x.oneCell'=true:=λx j=>uR (h.one x j);rcases i with⟨rfl,rfl,rfl⟩|⟨A,rfl,f⟩
 .have:b=[]:=zAl (by have:=h.len;simpa using this);subst this;exact Src.ofNil w d 0
 .exact Src.ofSlice w d A n c b h.len f a
theorem Yh.old {b n:Nat} {r:V6 GV} {a:V6 V0} (h:Yh ρ w b n r V a):(Builtin.firstCells b n V).run P w.drew = .ok a.toArray w.drew:=by
 obtain⟨base,c,rfl,_,e⟩:=h.val;rcases e with⟨rfl,rfl,rfl⟩|⟨A,rfl,d⟩
 .have:a=[]:=zAl (by have:=h.len;simpa using this);subst this;exact run_firstCells_none w.drew b 0 0 0
 .exact run_firstCells_some w.drew b n A n c a h.len d
theorem lP.alloc' (R:lP w0 ρ H w) {cs:V6 GV} {a:Array V0} (T:V9) (f:cs.length<=a.size) (p:∀(i:Nat) g,cs[i]?=some g->∃x,a[i]?=some x/\Rl ρ g x/\one x=true):
  ∃b,ρ.le b/\b=ρ.upd H.n ⟨w.heap.size,0,a.size,.cells a T,.cells cs⟩/\lP w0 b (H.new (.cells cs)) (w.alloc (.cells a T)):=by
 have e:UN w (w.alloc (.cells a T)):=(Below.refl _ _).alloc (zAf _) _;have h:=R.new (o:= .cells cs) (l:=⟨w.heap.size,0,a.size,.cells a T,.cells cs⟩) (R.ext.trans e) (λh r s d f=>by
  have⟨l,c,_,k⟩:=R.live h r d;rw[f]at c;cases c;exact⟨e.block _ k.lt,Nat.ne_of_lt k.lt⟩) (.inl R.ext.size) (by
  refine⟨a,T,heap_alloc_new w _,rfl,by simpa using f,λi g d=>?_⟩
  have⟨x,q,j,m⟩:=p i g d;exact⟨x,by simpa using q,j.le (Fq (R.fresh _ (zAf _))),m⟩) (heap_alloc_new w _)
 exact⟨_,h.1,rfl,h.2⟩
theorem Vs {e:Nat} {p:Nat×V6 GV} {s:Nat×Nat×Nat×Nat} (h:zB H e v=some p) (f:v.asS=some s):s.2.2.2=e/\∃cs,H.cells s.1=some cs/\s.2.1+s.2.2.1*e<=cs.length/\p.1=s.2.2.1:=by
 unfold zB at h;have c:v.isSnil=false:=by rw[GN f];rfl
 rw[c]at h;have⟨j,a,h⟩:=aH.1 (show ob v.asS _=some p from h);rw[f]at a;cases a;have⟨d,h⟩:=bZ.1 h;have⟨cs,b,h⟩:=aH.1 h;have⟨r,i,h⟩:=aH.1 h;cases h;exact⟨zA4 d,cs,b,(Sk i).1,rfl⟩
theorem Yo (R:lP w0 ρ H w) {D a k f m q:Nat} {l:UO} {cs s z:V6 GV} {ac d:V6 V0} (C:H.cells D=some cs) (hl:ρ D=some l) (F:Yh ρ w f k s (.slice (some ⟨l.b,l.off+a,none⟩) k q) ac)
  (r2:zX ρ z d) (l2:d.length=m*f) (o2:∀x∈d,one x=true) (E:k+m<=q) (N:l.off+a+q*f<=l.size):
  ∃c r,w.heap[l.b]?=some (.cells c r (0,0))/\l.off+a+q*f<=c.size/\ρ.le (ρ.upd H.n ⟨l.b,l.off+a,l.size,(.cells (c.toList.take (l.off+a+k*f)++d++c.toList.drop (l.off+a+k*f+d.length)).toArray r),.cells (s++z)⟩)/\
   lP w0 (ρ.upd H.n ⟨l.b,l.off+a,l.size,(.cells (c.toList.take (l.off+a+k*f)++d++c.toList.drop (l.off+a+k*f+d.length)).toArray r),.cells (s++z)⟩) ((H.del D).new (.cells (s++z))) (w.setRow l.b (c.toList.take (l.off+a+k*f)++d++c.toList.drop (l.off+a+k*f+d.length)).toArray):=by
 have⟨c,r,M,ab,ae,T⟩:=R.cells C hl;have af:k*f+m*f<=q*f:=by rw[<-zAt];exact Nat.mul_le_mul_right _ E
 have ag:c.toList.length=c.size:=V8
 have⟨l0,I,p,_⟩:=R.live _ _ (lO.1 C);rw[hl]at I;cases I;have l1:=F.len;have e1:s.length=k*f:=by rw[F.rel.len];exact l1
 have e2:z.length=m*f:=by rw[r2.len];exact l2
 have B:=(R.del D).new (o:= .cells (s++z)) (l:=⟨l.b,l.off+a,l.size,(.cells (c.toList.take (l.off+a+k*f)++d++c.toList.drop (l.off+a+k*f+d.length)).toArray r),.cells (s++z)⟩)
  (w':=w.setRow l.b (c.toList.take (l.off+a+k*f)++d++c.toList.drop (l.off+a+k*f+d.length)).toArray)
  ⟨R.ext.os,R.ext.tape,R.ext.output,by simpa using R.ext.size,λk hk hO=>by
   rw[setRow_other w l.b k _ (λe=>by subst e;rcases p with j|j;exact absurd j V7;exact hO j)];exact R.ext.block k hk hO⟩
  (λh o' l' G aa=>by
   rw[Kj]at G;by_cases e:h=D
   .rw[if_pos e]at G;cases G
   .rw[if_neg e]at G;have K:l'.b≠l.b:=λe'=>e (R.inj h D o' _ l' l G (lO.1 C) aa hl e');exact⟨setRow_other w l.b l'.b _ K,K⟩) p (by
   refine⟨_,r,setRow_heap w l.b _ _ r _ M,?_,?_,λi x hx=>?_⟩
   .simp;omega
   .show l.off+a+(s++z).length<=l.size;rw[zA0,e1,e2];omega
   .have J:ρ.le (ρ.upd (H.del D).n ⟨l.b,l.off+a,l.size,(.cells (c.toList.take (l.off+a+k*f)++d++c.toList.drop (l.off+a+k*f+d.length)).toArray r),.cells (s++z)⟩):=Fq (R.fresh _ (zAf _));have Y:=bM hx;rw[zA0,e1,e2]at Y;have⟨y,L,hr⟩:=(F.rel.append r2).get hx;refine⟨y,?_,hr.le J,?_⟩
    .show(c.toList.take (l.off+a+k*f)++d++c.toList.drop (l.off+a+k*f+d.length)).toArray[l.off+a+i]?=some y;rw[List.getElem?_toArray,zAr];by_cases hi:i<k*f
     .rw[zAe Q1,zAn,Q8,zAj];rw[zAe V7]at L;have⟨O,ad,S,_,X⟩:=F.val;cases S;rcases X with⟨h1,_⟩|⟨A,hA,Q⟩
      .cases h1
      .cases hA;have:=Q i y L;rw[gQ]at this;simpa [World.cell?,M]using this
     .rw[zA9 Q1,zB2,show min (l.off+a+k*f) c.toList.length=l.off+a+k*f by omega];rw[zA9 V7,l1]at L;rw[zAe V7];rw[<-L];congr 1;omega
    .rcases zAx.1 (zAo L)with hm|hm
     .exact F.one y hm
     .exact o2 y hm) (setRow_heap w l.b _ _ r _ M)
 exact⟨c,r,M,V7,B.1,B.2⟩
theorem abS (E:iR P tb) {T C ty:V9} (R:lP w0 ρ H w) (hv:Rl ρ v V) (hu:Rl ρ u U) (h:abR tb T C v u H=some (g,H')):QW P w0 ρ (Builtin.append_ #[T,C] ty #[V,U]) w g H':=by
 unfold abR at h;have⟨O,h⟩:=bZ.1 h;have⟨b,N,h⟩:=aH.1 h;have⟨t',M,h⟩:=aH.1 h;have⟨kn,J,h⟩:=aH.1 h;have⟨B,hz,h⟩:=aH.1 h;have⟨k,hk,h⟩:=aH.1 h;have⟨n,hn,h⟩:=aH.1 h;have⟨f,h⟩:=bZ.1 h;have⟨m,h⟩:=bZ.1 h;have⟨D,h⟩:=qM.1 h;have⟨p,h⟩:=qM.1 h;rw[aaE,mR]at h;cases h;have⟨⟨d,hd,F⟩,hE,z⟩:=Bq E N;have⟨dz,q,_,hC⟩:=zV (ρ:=ρ) E hz;rw[z]at q;cases q;have f:B.length=b.2.size:=zA4 f;have D:b.2.size≠0:=λe=>by rw[e]at D;cases D
 have p:n≠0:=λe=>by rw[e]at p;cases p
 have m:n*(b.2.bytes+1)<16777216:=by simpa [zAp]using m
 have aa:n*b.2.bytes+n<16777216:=by rw[Nat.mul_add,Nat.mul_one]at m;exact m
 rw[Bu O]at hv;have hV:=hv.snil_inv;subst hV;rw[qE hk]at hu;rw[hu.int_inv,Ko hn];have⟨iE,I,hs,hb,Y⟩:=hE.info;have o:=hd.und;rw[F]at o;have j:=(E.tab M).und;rw[KC J]at j;have hr:=Lib.run_append_nil_zeros (P:=P) w T C ty b.1 iE b.2.zero k.1 kn o j I Y n V7 V7 V7 (by rw[hb];omega);have A:b.2.zero.cells.size=b.2.size:=by have:=hC.r.len;simp at this;omega
 have G:=grownCap_ge w n 0 b.1;have c:=Li hC V7 n;have s:=c.r.len;have hx:Builtin.zeroCells b.2.zero.cells n=(Array.range (n*B.length)).map (b.2.zero.cells[· % b.2.zero.cells.size]!):=by
  unfold Builtin.zeroCells;rw[A,f]
 rw[<-hx]at c s;obtain⟨ab,K,rfl,R'⟩:=R.alloc' (cs:=UT B n) (a:=Builtin.zeroCells b.2.zero.cells n++Builtin.zeroCells b.2.zero.cells (grownCap w n 0 b.1 - n)) b.1 (by
   simp only[Array.size_append];have:(UT B n).length=(Builtin.zeroCells b.2.zero.cells n).size:=by simpa using s
   omega) (λi x Q=>by
  have⟨y,S,L⟩:=c.r.get Q;have X:(Builtin.zeroCells b.2.zero.cells n)[i]?=some y:=by simpa using S
  exact⟨y,by rw[zB6 (by simpa using bM S)];exact X,L,c.one y (by simpa using zAo S)⟩)
 refine⟨_,_,_,hr,K,R'.ext' ((Below.refl _ _).drew),?_⟩
 refine .sl (l:=⟨w.heap.size,0,(Builtin.zeroCells b.2.zero.cells n++Builtin.zeroCells b.2.zero.cells (grownCap w n 0 b.1 - n)).size,.cells (Builtin.zeroCells b.2.zero.cells n++Builtin.zeroCells b.2.zero.cells (grownCap w n 0 b.1 - n)) b.1,.cells (UT B n)⟩) (by simp[iP.upd]) G (.inr ⟨rfl,?_⟩);simp only[Array.size_append,size_zeroCells,A];have:grownCap w n 0 b.1*b.2.size=n*b.2.size+(grownCap w n 0 b.1 - n)*b.2.size:=by
  rw[<-zAt];congr 1;omega
 omega
theorem lP.put (R:lP w0 ρ H w) {D o:Nat} {cs z K:V6 GV} {l:UO} {d:V6 V0} (h:H.cells D=some cs) (G:ρ D=some l) (q:zX ρ z d) (n:∀x∈d,one x=true) (p:KU z o cs=some K) (I:z≠[]):
  ∃a j,w.heap[l.b]?=some (.cells a j (0,0))/\l.off+o+d.length<=a.size/\∃A,ρ.le A/\lP w0 A (H.set D (.cells K)) (w.setRow l.b (a.toList.take (l.off+o)++d++a.toList.drop (l.off+o+d.length)).toArray):=by
 have⟨a,j,C,T,M,f⟩:=R.cells h G;have X:z.length=d.length:=q.len;have⟨N,p2,Y⟩:=NL p;have N:=N I;refine⟨a,j,C,V7,_,R.set (lO.1 h) G ?_ (λk F=>setRow_other w l.b k _ F) ?_ (setRow_heap w l.b _ _ j _ C)⟩
 .have⟨l',m,c,_⟩:=R.live _ _ (lO.1 h);rw[G]at m;cases m;exact⟨R.ext.os,R.ext.tape,R.ext.output,by simpa using R.ext.size,λk F L=>by
   rw[setRow_other w l.b k _ (λe=>by subst e;rcases c with c|c;exact absurd c V7;exact L c)];exact R.ext.block k F L⟩
 .refine⟨_,j,setRow_heap w l.b _ _ j _ C,?_,V7,λi x r=>?_⟩
  .simp;omega
  .rw[Y i]at r;have Q:a.toList.length=a.size:=V8
   have s:(a.toList.take (l.off+o)++d++a.toList.drop (l.off+o+d.length)).toArray[l.off+i]?=if o<=i/\i<o+d.length then d[i - o]? else a[l.off+i]?:=by
    rw[List.getElem?_toArray,zAr];by_cases E:i<o
    .rw[Q0,zAe Q1,zAn,Q8,zAj]
    .rw[zA9 Q1,zB2];have O:min (l.off+o) a.toList.length=l.off+o:=V7
     rw[O];by_cases S:i<o+d.length
     .rw[Q8,zAe V7];congr 1;omega
     .rw[Q0,zA9 V7,zAq,zAj];congr 1;omega
   by_cases E:o<=i/\i<o+z.length
   .rw[if_pos E]at r;have⟨y,B,J⟩:=q.get r;exact⟨y,by rw[s,Q8];exact B,J,n y (zAo B)⟩
   .rw[if_neg E]at r;have⟨y,B,J⟩:=f i x r;exact⟨y,by rw[s,Q0];exact B,J⟩
theorem abW (hG:iR P tb) {T T' ty:V9} (R:lP w0 ρ H w) (hv:Rl ρ v V) (hu:Rl ρ u U) (h:afG tb T v u H=some (g,H')):QW P w0 ρ (Builtin.copy_ #[T,T'] ty #[V,U]) w g H':=by
 have⟨s,hs,h⟩:=aH.1 (show ob v.asS _=some (g,H')from h);have⟨r,hr,h⟩:=aH.1 h;have⟨f,Y,h⟩:=aH.1 h;have⟨D,h⟩:=bZ.1 h;have⟨m,h⟩:=bZ.1 h;have⟨c,h⟩:=bZ.1 h;have⟨G,M,h⟩:=aH.1 h;have⟨xs,aa,h⟩:=aH.1 h;have⟨ds,N,h⟩:=aH.1 h;have D:s.2.2.2=f.2.size:=zA4 D;have m:r.2.2.2=f.2.size:=zA4 m;have c:r.2.2.1=s.2.2.1:=zA4 c;cases xs with
 |nil=>cases h
 | cons x0 xs0 =>
  have⟨c1,B,h⟩:=aH.1 (show ob (KU (x0::xs0) s.2.1 ds) _=some (g,H')from h);rw[CW]at h;cases h;have k:zB H f.2.size u=some (r.2.2.1,x0::xs0):=by
   unfold zB;rw[GN hr];have K:Nat.beq f.2.size f.2.size=true:=V8
   show ob (some r) (λs=>bif Nat.beq s.2.2.2 f.2.size then _ else none)=_;show(bif Nat.beq r.2.2.2 f.2.size then ob (H.cells r.1) (λG=>ob (slc G r.2.1 (Nat.mul r.2.2.1 f.2.size)) λq=>some (r.2.2.1,q))else none)=_;rw[m,K,cond_true,M];show ob (slc G r.2.1 (Nat.mul r.2.2.1 f.2.size)) _=_;rw[aa];rfl
  have⟨ns,n⟩:=HO R hu k;have⟨⟨d,hd,p⟩,hE,ad⟩:=Bq hG Y;rw[GN hs]at hv;obtain⟨l,ae,A,hl,rfl,hc,ha⟩:=hv.sl_inv;have X:x0::xs0≠[]:=V8
  have⟨I,T2,K,y,ab,S,R'⟩:=R.put N hl n.rel n.one B X;have a:=n.len;have i:ns.length≠0:=by have:=n.rel.len;simp at this;omega
  have hA:A=⟨l.b,l.off+s.2.1,none⟩:=by
   rcases ha with ha|⟨e,_⟩
   .exfalso;have:s.2.2.1=0:=V7
    rw[c,this]at a;simp at a;exact i (by simp[a])
   .exact e
  subst hA;have F:=hd.und;rw[p]at F;have E:=run_storeCells_at P l.b (l.off+s.2.1) T2 ns 0 I w K (by simpa using y) (λx hx=>uR (n.one x hx));simp only[Nat.add_zero]at E;have⟨ac,o,J,L,O⟩:=n.val;subst J;rcases O with⟨_,h0,_⟩|⟨A2,rfl,j⟩
  .exfalso;rw[h0]at a;simp at a;exact i (by simp[a])
  have Q:=run_firstCells_some (P:=P) w f.2.size r.2.2.1 A2 r.2.2.1 o ns a j;have C:=hd.run_und w;rw[p]at C;refine⟨_,_,ab,?_,S,R',.int _ _⟩
  have z:Nat.min r.2.2.1 s.2.2.1=r.2.2.1:=by rw[c];exact Nat.min_self _
  simp[Builtin.copy_,C,Builtin.lenOf,hE.run_size w,z,Q,E,goInt]
theorem aeI (hG:iR P tb) {T T' ty:V9} (R:lP w0 ρ H w) (hv:Rl ρ v V) (hu:Rl ρ u U) (h:Za tb T T' v u H=some (g,H')):QW P w0 ρ (Builtin.append_ #[T,T'] ty #[V,U]) w g H':=by
 unfold Za at h;cases F:Nat.beq T T' with
 |false=>rw[F]at h;exact abS hG R hv hu h
 |true=>
 rw[F]at h;have F:T=T':=zA4 F;subst F;rw[cond_true]at h;have⟨c,aq,h⟩:=aH.1 h;have⟨h0,h⟩:=qM.1 h;have⟨zc,hz,h⟩:=aH.1 h;have⟨ah,h⟩:=bZ.1 h;have⟨p,hp,h⟩:=aH.1 h;have⟨q,hq,h⟩:=aH.1 h;have⟨⟨d,hd,I⟩,hE,ag⟩:=Bq hG aq;have⟨dz,af,_,hC⟩:=zV (ρ:=ρ) hG hz;rw[ag]at af;cases af;have ah:zc.length=c.2.size:=zA4 ah;have au:c.2.zero.cells.size=c.2.size:=by have:=hC.r.len;simp at this;omega
 have h0:c.2.size≠0:=λe=>by rw[e]at h0;cases h0
 have⟨D,c1⟩:=HO R hv hp;have⟨o,L⟩:=HO R hu hq;have Q:=hd.und;rw[I]at Q;have G:=L.src (P:=P) (T:=T) Q;have⟨E,f,S,M,ak⟩:=c1.val;cases C:q.1 with
 |zero=>
  rw[C]at h;cases h;rw[C]at G;have ao:o=[]:=zAl (by have:=L.len;rw[C]at this;simpa using this);subst ao;refine⟨V,w,ρ,?_,iP.le_refl _,R,hv⟩
  have Y:=hd.run_und w;rw[I]at Y;have N:=G.len w;have ac:=G.cells;subst S;cases E with
  |none=>simp[Builtin.append_,Y,hE.run_size w,N,ac,M]
  |some A=>simp[Builtin.append_,Y,hE.run_size w,N,ac,M,storeCells]
 | succ m =>
  rw[C]at h;simp only[FK]at h;have⟨z,h⟩:=bZ.1 h;rw[ahv,aay,mR]at h;cases h;have z:(p.1+q.1)*(c.2.bytes+1)<16777216:=by rw[C];simpa [zAp]using z
  have ax:(p.1+q.1)*c.2.bytes+(p.1+q.1)<16777216:=by rw[Nat.mul_add,Nat.mul_one]at z;exact z
  have O:Nat.add p.1 (m+1)=p.1+q.1:=by rw[C];rfl
  have j:zX ρ (p.2++q.2) (D++o):=c1.rel.append L.rel;have J:(p.2++q.2).length=(p.1+q.1)*c.2.size:=by
   rw[j.len,zA0,c1.len,L.len,<-zAt]
  have K:∀x∈D++o,one x=true:=λx hx=>by
   rcases zAx.1 hx with hx|hx
   .exact c1.one x hx
   .exact L.one x hx
  by_cases k:p.1+q.1<=f
  ·
   have ar:∃s,v.asS=some s:=by
    cases ai:v.isSnil with
    |true=>
     rw[Bu ai]at hv;have:=hv.snil_inv;rw[S]at this;injection this with _ _ e3;omega
    |false=>
     unfold zB at hp;rw[ai]at hp;have⟨s,hs,_⟩:=aH.1 (show ob v.asS _=some p from hp);exact⟨s,hs⟩
   have⟨s,hs⟩:=ar;have⟨ap,cs,al,ay,az⟩:=Vs hp hs;rw[GN hs]at hv;have⟨l,av,A,hl,ab,hc,ha⟩:=hv.sl_inv;rw[S]at ab;injection ab with e1 e2 e3;subst e1 e3;rcases ha with ha|⟨rfl,B⟩
   .omega
   rw[ap]at B;have aa:=c1;rw[S]at aa;have⟨aw,T',hh,ad,X,R'⟩:=Yo R al hl aa L.rel L.len L.one k B;have hr:=Uo (P:=P) (ty:=ty) hd I hE hh G k ad;have ae:Vu H v=H.del s.1:=by unfold Vu;rw[hs]
   rw[ae,S];refine⟨_,_,_,hr,X,R',?_⟩
   rw[O];exact .sl (l:=⟨l.b,l.off+s.2.1,l.size,_,_⟩) (by show(if H.n=H.n then _ else _)=_;exact if_pos Z) k (.inr ⟨rfl,by show l.off+s.2.1+0+f*c.2.size<=l.size;omega⟩)
  ·
   have aj:lP w0 ρ (Vu H v) w.drew:=by
    have:lP w0 ρ (Vu H v) w:=by
     unfold Vu;cases v.asS with
     |none=>exact R
     |some s=>exact R.del s.1
    exact this.ext' ((Below.refl _ _).drew)
   have hr:=Um (P:=P) (ty:=ty) hd I hE (base:=E) (by rw[<-S];exact c1.old) G V7 V7 V7;have am:=grownCap_ge w (p.1+q.1) f c.1;have an:(D++o).length=(p.1+q.1)*c.2.size:=by rw[<-j.len];exact J
   obtain⟨aA,X,rfl,R'⟩:=aj.alloc' (cs:=p.2++q.2) (a:=(D++o).toArray++Builtin.zeroCells c.2.zero.cells (grownCap w (p.1+q.1) f c.1 - (p.1+q.1))) c.1 (by simp only[Array.size_append,List.size_toArray];omega) (λi x hx=>by
    have⟨y,hy,hr⟩:=j.get hx;exact⟨y,by rw[zB6 (by simpa using bM hy)];simpa using hy,hr,K y (zAo hy)⟩)
   rw[S];refine⟨_,_,_,hr,X,R',?_⟩
   rw[O];refine .sl (l:=⟨w.heap.size,0,((D++o).toArray++Builtin.zeroCells c.2.zero.cells (grownCap w (p.1+q.1) f c.1 - (p.1+q.1))).size,.cells ((D++o).toArray++Builtin.zeroCells c.2.zero.cells (grownCap w (p.1+q.1) f c.1 - (p.1+q.1))) c.1,.cells (p.2++q.2)⟩) (by simp[iP.upd]) am (.inr ⟨rfl,?_⟩);simp only[Array.size_append,List.size_toArray,size_zeroCells,au,an];have:grownCap w (p.1+q.1) f c.1*c.2.size=(p.1+q.1)*c.2.size+(grownCap w (p.1+q.1) f c.1 - (p.1+q.1))*c.2.size:=by
    rw[<-zAt];congr 1;omega
   omega
end
section
variable {P:Program} {tb:TB} {ρ:iP} {V U W X:V0} {v u t g:GV} {gs:FX} {w0:lJ gs} {w:V2} {H H':GH}
theorem UB {T:V9} (R:lP w0 ρ H w) (h:LC H=some (g,H')):QW P w0 ρ (Instr.makeMap T none) w g H':=by
 unfold LC at h;rw[mR]at h;cases h;have e:UN w (w.alloc (.map #[] 0)):=(Below.refl _ _).alloc (zAf _) _;have b:=R.new (o:= .mp []) (l:=⟨w.heap.size,0,0,.map #[] 0,.mp []⟩) (R.ext.trans e) (λh k m d f=>by
  have⟨l,a,_,c⟩:=R.live h k d;rw[f]at a;cases a;exact⟨e.block _ c.lt,Nat.ne_of_lt c.lt⟩) (.inl R.ext.size) ⟨#[],0,heap_alloc_new w _,rfl,λi x j=>by simp at j⟩ (heap_alloc_new w _)
 refine⟨_,_,_,?_,b.1,b.2,.map (l:=⟨w.heap.size,0,0,.map #[] 0,.mp []⟩) (by simp[iP.upd])⟩
 simp[Instr.makeMap]
theorem ahh (s r:ByteArray):eqS (qO (cE s),(cE s).length) (qO (cE r),(cE r).length)=(s.toList==r.toList):=by
 rw[Lib.toList_data,Lib.toList_data];unfold eqS;by_cases b:(cE s).length=(cE r).length
 .have d:Nat.beq (cE r).length (cE r).length=true:=V8
  rw[b,d,cond_true];by_cases a:qO (cE s)=qO (cE r)
  .have:=KR b a;unfold cE at this;rw[a,this];simp
  .rw[qT a];symm;rw[beq_eq_false_iff_ne];intro c;exact a (by unfold cE;rw[c])
 .rw[qT b,cond_false];symm;rw[beq_eq_false_iff_ne];intro c;exact b (by unfold cE;rw[c])
theorem Wc {t:Ty} {a b:GV} {A B:V0} {c:V4} (d:OC t a=true) (e:Rl ρ a A) (f:Rl ρ b B) (h:Xv a b=some c):Instr.sameNow t.desc A B=some c:=by
 unfold Xv at h;unfold OC at d;cases i:a.asI with
 | some x =>
  rw[i]at h d;have⟨y,j,h⟩:=aH.1 (show ob b.asI _=some c from h);have⟨z,h⟩:=bZ.1 h;cases h;rw[qE i]at e;rw[qE j]at f;rw[e.int_inv,f.int_inv];cases p:tdI t.desc with
  |none=>simp only[p]at d;cases d
  |some k=>
   rw[KC p];have:=Mi z;simp only[Instr.sameNow,this,if_true,Mh];congr 1
 |none=>
  rw[i]at h d;have⟨x,q,h⟩:=aH.1 (show ob a.asStr _=some c from h);have⟨y,j,h⟩:=aH.1 h;cases h;rw[q]at d;rw[xI q]at e;rw[xI j]at f;obtain⟨s,rfl,l,m⟩:=e.str_inv;obtain⟨r,rfl,n,o⟩:=f.str_inv;rw[FU d];show some (s==r)=_;rw[beq_toListBytes,<-ahh];cases x;cases y;simp only at l m n o;rw[l,m,n,o]
theorem OH {t:Ty} {k:GV} {K:V0} (d:OC t k=true) (c:Rl ρ k K):∀{a:V6 (GV×GV)} {en:V6 MapEntry} {r:V1 GV} (i:Nat),en.length=a.length->(∀(i:Nat) e,a[i]?=some e->∃m,en[i]?=some m/\Rl ρ e.1 m.key/\Rl ρ e.2 m.val)->T_ k a=some r->
  (r=none/\Instr.findNow t.desc K en i=some none)\/∃g j x,r=some g/\Rl ρ g x/\Instr.findNow t.desc K en i=some (some (j,x))
 | [],en,r,i,hl,_,h=>by
  cases h;have:en=[]:=zAl (by simpa using hl);subst this;exact .inl ⟨rfl,rfl⟩
 | e :: a, en, r, i, hl, hr, h =>by
  have⟨b,q,h⟩:=aH.1 (show ob (Xv k e.1) (λb=>bif b then some (some e.2)else T_ k a)=some r from h);cases en with
  |nil=>simp at hl
  | cons m en =>
   have⟨y,f,o,p⟩:=hr 0 e Z;simp at f;subst f;have l:=Wc d c o q;cases b with
   |true=>
    cases h;exact .inr ⟨e.2,i,m.val,rfl,p,by simp[Instr.findNow,l]⟩
   |false=>
    have:=OH (r:=r) d c (i+1) (by simpa using hl) (λi n s=>by have:=hr (i+1) n (by simpa using s);simpa using this) (show T_ k a=some r from h);simpa [Instr.findNow,l]using this
theorem TV (a:iR P tb) {T:V9} {t:Ty×Ty} (h:abj tb T=some t):∃d k e,xG P T d/\d.desc = .map k e/\xG P k t.1/\xG P e t.2:=by
 have⟨d,j,h⟩:=aH.1 (show ob (tb T) _=some t from h);have⟨i,b,h⟩:=aH.1 h;have⟨l,c,h⟩:=aH.1 h;have⟨m,f,h⟩:=aH.1 h;cases h;exact⟨d,i.1,i.2,a.tab j,aij b,a.tab c,a.tab f⟩
theorem Ll {K:V9} {t:Ty} {b:V4} (j:xG P K t) (c:OC t u=true) (d:Rl ρ u U) (w:V2):(Instr.checkKey b 10000 K U).run P w = .ok () w:=by
 have a:=j.run_und w;unfold OC at c;have h:∀n:Nat,(Instr.checkKey b (n+1) K U).run P w = .ok () w:=λn=>by
  unfold Instr.checkKey;cases e:u.asI with
  |some x=>
   rw[e]at c;rw[qE e]at d;rw[d.int_inv];cases i:tdI t.desc with
   |none=>simp only[i]at c;cases c
   |some k=>rw[KC i]at a;simp[a]
  | none =>
   rw[e]at c;cases f:u.asStr with
   |none=>simp only[f]at c;cases c
   |some x=>
    simp only[f]at c;rw[xI f]at d;obtain⟨s,rfl,_,_⟩:=d.str_inv;rw[FU c]at a;simp[a]
 exact h 9999
theorem lP.map (R:lP w0 ρ H w) {h:Nat} {c:V6 (GV×GV)} (e:H.get h=some (.mp c)) {l:UO} (f:ρ h=some l):Ip ρ w l (.mp c)/\w0.mine l.b:=by
 have⟨j,a,d,i⟩:=R.live h _ e;rw[f]at a;cases a;exact⟨i,d⟩
theorem abZ (S:iR P tb) {T:V9} {B:V4} (R:lP w0 ρ H w) (K:Rl ρ v V) (J:Rl ρ u U) (h:afH tb T B v u H=some g):∃x,Rl ρ g x/\(Instr.lookup T V U B).run P w = .ok x w:=by
 have⟨m,hm,h⟩:=aH.1 (show ob v.asM _=some g from h);have⟨o,I,h⟩:=aH.1 h;have⟨es,D,h⟩:=aH.1 h;have⟨t,ht,h⟩:=aH.1 h;have⟨G,h⟩:=bZ.1 h;have⟨r,hr,h⟩:=aH.1 h;have⟨z,hz,h⟩:=aH.1 h;rw[asM_eq hm]at K;obtain⟨l,hl,rfl⟩:=K.map_inv;rw[GO.asM_eq D]at I;have⟨⟨A,M,Y,s,q⟩,_⟩:=R.map I hl;have⟨d,k,e,hd,C,F,E⟩:=TV S ht;have c:=hd.run_und w;rw[C]at c;have n:=Ll (P:=P) (b:=A.isEmpty) F G J w;have f:(getObj l.b).run P w = .ok (.map A M) w:=by simp[getObj,Sem.run,Y]
 have a:=F.run_und w;have p:=OH G J (en:=A.toList) (r:=r) 0 (by simpa using s) (λi N he=>by
  have⟨m',O,Q⟩:=q i N he;exact⟨m',by rw[zAj];exact O,Q⟩) hr
 have y:=VV (ρ:=ρ) hz;rcases p with⟨rfl,p⟩|⟨g',j,x,rfl,L,p⟩
 .cases B with
  |false=>cases h;exact⟨_,y,by simp[Instr.lookup,c,f,n,Instr.findKey,a,p,E.run_zero w]⟩
  |true=>cases h;exact⟨.tuple #[t.2.zero,.bool false],Nv (.cons y (.cons (.bool _) .nil)),by simp[Instr.lookup,c,f,n,Instr.findKey,a,p,E.run_zero w]⟩
 .cases B with
  |false=>cases h;exact⟨x,L,by simp[Instr.lookup,c,f,n,Instr.findKey,a,p]⟩
  |true=>cases h;exact⟨.tuple #[x,.bool true],Nv (.cons L (.cons (.bool _) .nil)),by simp[Instr.lookup,c,f,n,Instr.findKey,a,p]⟩
theorem Zd (hG:iR P tb) {T:V9} (R:lP w0 ρ H w) (hv:Rl ρ v V) (N:Rl ρ u U) (hx:Rl ρ t X) (h:aca tb T v u t H=some (g,H')):g = .un/\∃w' C,(Instr.mapUpdate T V U X).run P w = .ok () w'/\ρ.le C/\lP w0 C H' w':=by
 have⟨m,hm,h⟩:=aH.1 (show ob v.asM _=some (g,H')from h);have⟨o,M,h⟩:=aH.1 h;have⟨Q,L,h⟩:=aH.1 h;have⟨ty,ht,h⟩:=aH.1 h;have⟨hk,h⟩:=bZ.1 h;have⟨r,hr,h⟩:=aH.1 h;rw[asM_eq hm]at hv;obtain⟨l,hl,rfl⟩:=hv.map_inv;rw[GO.asM_eq L]at M;have⟨⟨z,c,D,p,n⟩,a⟩:=R.map M hl;have⟨d,k,e,hd,K,S,hE⟩:=TV hG ht;have q:=hd.run_und w;rw[K]at q;have J:=Ll (P:=P) (b:=false) S hk N w;have A:(getObj l.b).run P w = .ok (.map z c) w:=by simp[getObj,Sem.run,D]
 have s:=S.run_und w;have E:=OH hk N (en:=z.toList) (r:=r) 0 (by simpa using p) (λi F f=>by
  have⟨O,G,I⟩:=n i F f;exact⟨O,by rw[zAj];exact G,I⟩) hr
 rcases E with⟨rfl,E⟩|⟨g',j,x,rfl,aa,E⟩
 .simp only[CW]at h;cases h;refine⟨rfl,{w with heap:=w.heap.setIfInBounds l.b (.map (z.push {key:=U,val:=X,born:=c}) (c+1))},_,?_,R.set (X:= .map (z.push {key:=U,val:=X,born:=c}) (c+1)) M hl ?_ ?_ ?_ ?_⟩
  .simp[Instr.mapUpdate,q,A,J,Instr.findKey,s,E,setObj,Sem.run,D]
  .exact⟨R.ext.os,R.ext.tape,R.ext.output,by simpa using R.ext.size,λi B Y=>by
    show(w.heap.setIfInBounds l.b _)[i]?=_;rw[zAv (λe=>by subst e;rcases a with a|a;exact absurd a V7;exact Y a)];exact R.ext.block i B Y⟩
  .intro i B;show(w.heap.setIfInBounds l.b _)[i]?=_;rw[zAv (Ne.symm B)]
  .have y:l.b<w.heap.size:=(zA8.1 D).1;refine⟨z.push {key:=U,val:=X,born:=c},c+1,by show(w.heap.setIfInBounds l.b _)[l.b]?=_;rw[zB1 y],by simp[p],λi F f=>?_⟩
   by_cases B:i<Q.length
   .rw[zAe B]at f;have⟨O,G,I⟩:=n i F f;exact⟨O,by rw[Array.getElem?_push,Q0];exact G,I⟩
   .rw[zA9 V7]at f;have:i=Q.length:=by
     have:=bM f;simp at this;omega
    subst this;simp at f;subst f;exact⟨⟨U,X,c⟩,by rw[Array.getElem?_push,Q8],N,hx⟩
  .have y:l.b<w.heap.size:=(zA8.1 D).1;show(w.heap.setIfInBounds l.b _)[l.b]?=_;rw[zB1 y]
 .cases h
end
section
variable {P:Program} {tb:TB} {ρ:iP} {gs:FX} {w0:lJ gs} {w:V2} {H H':GH} {n:Nat} {σ:GF} {a:Act} {R:Type}
def sY (P:Program) {gs:FX} (w0:lJ gs) (ρ:iP) (f:Nat) (c:V6 V0) (w:V2) (g:GV) (H':GH):Prop:=
 (∃v w' b,(callFunc f c.toArray).run P w = .ok (.value v) w'/\ρ.le b/\lP w0 b H' w'/\Rl b g v)\/
 ((callFunc f c.toArray).run P w = .ok (.enter f c.toArray) w/\Calls P f c.toArray w λe w'=>∃v b,e = .returned v/\ρ.le b/\lP w0 b H' w'/\Rl b g v)
def xA (P:Program) {gs:FX} (w0:lJ gs) (d:CH):Prop:=∀f b H g H',d f b H=some (g,H')->∀ρ w c,lP w0 ρ H w->zX ρ b c->sY P w0 ρ f c w g H'
def He (P:Program) {gs:FX} (w0:lJ gs) (ρ:iP) (σ:GF) (a:Act) (w:V2) (o:V5) (g:GV) (H H':GH):Prop:=
 (gI o.op=false/\rU o.op=false/\RG o.op=false/\H'=H/\∃v,Rl ρ g v/\∀w,(execOp a.eval o).run P w = .ok (.value v) w)\/
 (gI o.op=false/\rU o.op=true/\H'=H/\∃v h l,ldH σ o.op=some h/\ρ h=some l/\(∃x,H.get h=some x)/\Rl ρ g v/\∀d,d.heap[l.b]?=w.heap[l.b]? -> (execOp a.eval o).run P d = .ok (.value v) d)\/
 (gI o.op=false/\RG o.op=true/\H'=H/\∃v,Rl ρ g v/\(execOp a.eval o).run P w = .ok (.value v) w)\/
 (gI o.op=true/\∀K:Act->V2->Prop,(∀c d v,ρ.le c->lP w0 c H' d->Rl c g v->K (a.put o.dst v) d)->o.wp P a w K Vf)
theorem He.comp {o:V5} {g:GV} {s:Sem V0} (e:gI o.op=false) (h:HA P ρ s g) (d:∀w v,s.run P w = .ok v w->(execOp a.eval o).run P w = .ok (.value v) w) (b:rU o.op=false:=by rfl) (c:RG o.op=false:=by rfl):He P w0 ρ σ a w o g H H:=
 let ⟨v,hv,hr⟩:=h;.inl ⟨e,b,c,rfl,v,hv,λw=>d w v (hr w)⟩
theorem He.read {o:V5} {g:GV} {s:Sem V0} (c:gI o.op=false) (d:RG o.op=true) (h:∃x,Rl ρ g x/\s.run P w = .ok x w) (b:∀v,s.run P w = .ok v w->(execOp a.eval o).run P w = .ok (.value v) w):He P w0 ρ σ a w o g H H:=
 let ⟨v,hv,hr'⟩:=h;.inr (.inr (.inl ⟨c,d,rfl,v,hv,b v hr'⟩))
theorem He.does {o:V5} {g:GV} {s:Sem V0} (j:gI o.op=true) (h:QW P w0 ρ s w g H') (i:∀v b,s.run P w = .ok v b->(execOp a.eval o).run P w = .ok (.value v) b):He P w0 ρ σ a w o g H H':=by
 have⟨v,b,d,k,c,e,l⟩:=h;refine .inr (.inr (.inr ⟨j,λK f=>?_⟩));simp only[Oper.wp,i v b k,Oper.upon];exact f d b v c e l
theorem He.act {o:V5} {g:GV} {s:Sem Unit} (j:gI o.op=true) (h:g = .un/\∃c b,s.run P w = .ok () c/\ρ.le b/\lP w0 b H' c) (i:∀c,s.run P w = .ok () c->(execOp a.eval o).run P w = .ok .skip c):He P w0 ρ σ a w o g H H':=by
 obtain⟨rfl,c,b,k,d,e⟩:=h;refine .inr (.inr (.inr ⟨j,λK f=>?_⟩));simp only[Oper.wp,i c k,Oper.upon];exact f b c undef d e .un
theorem NK (F:oK ρ n σ a) {o:V1 V3} {g:V1 GV} (h:Mk σ o=some g):RlO ρ g (o.map a.eval):=by
 cases o with
 |none=>cases h;exact .inl ⟨rfl,rfl⟩
 |some x=>
  have⟨v,b,h⟩:=aH.1 (show ob (nK σ x) _=some g from h);cases h;exact .inr ⟨v,_,rfl,rfl,dQ F b⟩
theorem JF {c:Type} {b:Array c} {x y:c} (h:b.toList=[x,y]):b = #[x,y]:=by
 cases b;simp at h;rw[h]
theorem NV {c:Type} {b:Array c} {x:c} (h:b.toList=[x]):b = #[x]:=by
 cases b;simp at h;rw[h]
theorem HT {f:V3->KT R} {k:GV->GH->V1 R} {r:R}:∀{b:V6 V3},OB b f σ H k=some r->∃x,b=[x]/\f x σ H k=some r
 | [],h=>by cases h
 | [x],h=>⟨x,rfl,h⟩
 |_::_::_,h=>by cases h
theorem Dd {f:V3->V3->KT R} {k:GV->GH->V1 R} {r:R}:∀{b:V6 V3},IU b f σ H k=some r->∃x y,b=[x,y]/\f x y σ H k=some r
 | [],h=>by cases h
 | [_],h=>by cases h
 | [x,y],h=>⟨x,y,rfl,h⟩
 |_::_::_::_,h=>by cases h
theorem pY {o:OR} {k:GV->GH->V1 R} {r:R} (h:Ae o k=some r):∃g H',o=some (g,H')/\k g H'=some r:=by
 have⟨⟨g,H'⟩,b,c⟩:=aH.1 (show ob o _=some r from h);exact⟨g,H',b,c⟩
theorem aeg (I:iR P tb) (F:oK ρ n σ a) (L:lP w0 ρ H w) {b:Builtin} {C:Array V3} {c:Array V9} {k:GV->GH->V1 R} {r:R} {d:V1 Tmp} {i:V9} {K:String} {J:Array Edge} {M:V1 (Nat×V4)} (e:c.size=C.size)
  (h:VI tb C c b σ H k=some r):∃g H',k g H'=some r/\He P w0 ρ σ a w ⟨d,.call ⟨.builtin b,C,c⟩,i,K,J,M⟩ g H H':=by
 cases b with
 | len =>
  have⟨x,z,h⟩:=HT (show OB C.toList (YP tb c.toList) σ H k=some r from h);have⟨T,f,h⟩:=aH.1 (show ob (LK c.toList 0) _=some r from h);have⟨v,s,h⟩:=aH.1 h;have⟨g,o,p⟩:=aH.1 h;have m:=NV z;subst m;have j:c = #[T]:=by
   rw[Ab]at f;have⟨l⟩:=c
   match l,e with
   | [t],_=>simp at f;subst f;rfl
  subst j;exact⟨g,H,p,.comp Z (Ya I (ty:=i) (dQ F s) o) (λw v q=>by simp[execOp,resolve,invoke,builtin,q])⟩
 | max =>
  have⟨x,y,z,h⟩:=Dd (show IU C.toList (λx y=>k2 x y Wv) σ H k=some r from h);have⟨v,s,h⟩:=aH.1 (show ob (nK σ x) _=some r from h);have⟨u,E,h⟩:=aH.1 h;have⟨g,o,p⟩:=aH.1 h;have m:=JF z;subst m;obtain⟨A,B,j⟩:∃A B,c = #[A,B]:=by
   have⟨l⟩:=c
   match l,e with
   | [t,t'],_=>exact⟨t,t',rfl⟩
  subst j;exact⟨g,H,p,.comp Z (Yb (t1:=A) (t2:=B) (ty:=i) (dQ F s) (dQ F E) o) (λw v q=>by simp[execOp,resolve,invoke,builtin,q])⟩
 | min =>
  have⟨x,y,z,h⟩:=Dd (show IU C.toList (λx y=>k2 x y acb) σ H k=some r from h);have⟨v,s,h⟩:=aH.1 (show ob (nK σ x) _=some r from h);have⟨u,E,h⟩:=aH.1 h;have⟨g,o,p⟩:=aH.1 h;have m:=JF z;subst m;obtain⟨A,B,j⟩:∃A B,c = #[A,B]:=by
   have⟨l⟩:=c
   match l,e with
   | [t,t'],_=>exact⟨t,t',rfl⟩
  subst j;exact⟨g,H,p,.comp Z (Yc (t1:=A) (t2:=B) (ty:=i) (dQ F s) (dQ F E) o) (λw v q=>by simp[execOp,resolve,invoke,builtin,q])⟩
 | append =>
  have⟨x,y,z,h⟩:=Dd (show IU C.toList (aaX tb c.toList) σ H k=some r from h);have⟨T,f,h⟩:=aH.1 (show ob (LK c.toList 0) _=some r from h);have⟨G,D,h⟩:=aH.1 h;have⟨v,s,h⟩:=aH.1 h;have⟨u,E,h⟩:=aH.1 h;have⟨g,H',o,p⟩:=pY h;have m:=JF z;subst m;have j:c = #[T,G]:=by
   rw[Ab]at f D;have⟨l⟩:=c
   match l,e with
   | [t,t'],_=>simp at f D;subst f D;rfl
  subst j;exact⟨g,H',p,.does Z (aeI I (ty:=i) L (dQ F s) (dQ F E) o) (λv N q=>by simp[execOp,resolve,invoke,builtin,q])⟩
 | copy =>
  have⟨x,y,z,h⟩:=Dd (show IU C.toList (TR tb c.toList) σ H k=some r from h);have⟨T,f,h⟩:=aH.1 (show ob (LK c.toList 0) _=some r from h);have⟨v,s,h⟩:=aH.1 h;have⟨u,E,h⟩:=aH.1 h;have⟨g,H',o,p⟩:=pY h;have m:=JF z;subst m;obtain⟨G,j⟩:∃G,c = #[T,G]:=by
   rw[Ab]at f;have⟨l⟩:=c
   match l,e with
   | [t,t'],_=>simp at f;subst f;exact⟨t',rfl⟩
  subst j;exact⟨g,H',p,.does Z (abW I (T':=G) (ty:=i) L (dQ F s) (dQ F E) o) (λv N q=>by simp[execOp,resolve,invoke,builtin,q])⟩
 | cap =>
  have⟨x,z,h⟩:=HT (show OB C.toList (YO tb c.toList) σ H k=some r from h);have⟨T,f,h⟩:=aH.1 (show ob (LK c.toList 0) _=some r from h);have⟨v,s,h⟩:=aH.1 h;have⟨g,o,p⟩:=aH.1 h;have m:=NV z;subst m;have j:c = #[T]:=by
   rw[Ab]at f;have⟨l⟩:=c
   match l,e with
   | [t],_=>simp at f;subst f;rfl
  subst j;exact⟨g,H,p,.comp Z (XY I (ty:=i) (dQ F s) o) (λw v q=>by simp[execOp,resolve,invoke,builtin,q])⟩
 |_=>cases h
theorem YN {N:CH} (D:xA P w0 N) (F:oK ρ n σ a) (S:lP w0 ρ H w) {f:V3} {q:Array V3} {O:Array V9} {k:GV->GH->V1 R} {r:R} {d:V1 Tmp} {Q:V9} {x:String} {s:Array Edge} {J:V1 (Nat×V4)}
  (h:aaY N q f σ H k=some r):∃g H',k g H'=some r/\He P w0 ρ σ a w ⟨d,.call ⟨.value f,q,O⟩,Q,x,s,J⟩ g H H':=by
 have⟨v,X,h⟩:=aH.1 (show ob (nK σ f) _=some r from h);have⟨p,W,h⟩:=aH.1 h;have⟨Y,E,h⟩:=aH.1 h;have⟨g,H',V,h⟩:=pY h;refine⟨g,H',h,.inr (.inr (.inr ⟨rfl,λK L=>?_⟩))⟩
 have M:=dQ F X;rw[ZX W]at M;have⟨A,z,U,C,B⟩:=M.fn_inv;have u:=Jw F E;have t:=(C.append u).append B;have c:∀G l,(callFunc p.1 (A++q.toList.map a.eval++z).toArray).run P w = .ok G l->(execOp a.eval ⟨d,.call ⟨.value f,q,O⟩,Q,x,s,J⟩).run P w = .ok G l:=λG l o=>by
  have T:(A++q.toList.map a.eval++z).toArray=A.toArray++(q.map a.eval++z.toArray):=by
   apply Array.toList_inj.1;simp
  rw[T]at o;simp[execOp,resolve,U,Deferred.ofValue,invoke,o]
 rcases D _ _ _ _ _ V ρ w _ S t with⟨I,l,m,o,i,y,j⟩|⟨o,b⟩
 .simp only[Oper.wp,c _ _ o,Oper.upon];exact L m l I i y j
 .simp only[Oper.wp,c _ _ o,Oper.upon];refine b.mono ?_;rintro e l ⟨I,m,rfl,i,y,j⟩;exact L m l I i y j
def OO:Op->V4
 | .call c=>Nat.beq c.argTypes.size c.args.size
 |_=>true
theorem VD (B:iR P tb) {ih:CH} (V:xA P w0 ih) (F:oK ρ n σ a) (E:lP w0 ρ H w) {o:V5} {k:GV->GH->V1 R} {r:R} (J:OO o.op=true\/∃c f,o.op = .call c/\c.callee = .value f) (h:SK tb ih o.op σ H k=some r):
  ∃g H',k g H'=some r/\He P w0 ρ σ a w o g H H':=by
 have⟨d,K,ty,ad,ac,gd⟩:=o;cases K with
 |move x=>
  have⟨v,A,h⟩:=aH.1 (show ob (nK σ x) _=some r from h);exact⟨v,H,h,.inl ⟨rfl,rfl,rfl,rfl,_,dQ F A,λw=>by simp[execOp]⟩⟩
 |assign x=>
  have⟨v,A,h⟩:=aH.1 (show ob (nK σ x) _=some r from h);exact⟨v,H,h,.inl ⟨rfl,rfl,rfl,rfl,_,dQ F A,λw=>by simp[execOp]⟩⟩
 |pick c x y=>
  have⟨v,A,h⟩:=aH.1 (show ob (nK σ c) _=some r from h);have⟨u,C,h⟩:=aH.1 h;have⟨t,X,h⟩:=aH.1 h;have⟨g,s,h⟩:=aH.1 h;have⟨b,hb,s⟩:=aH.1 (show ob v.asB _=some g from s);have O:=dQ F A;rw[IJ hb]at O;cases b with
  |true=>cases s;exact⟨_,H,h,.inl ⟨rfl,rfl,rfl,rfl,_,dQ F C,λw=>by simp[execOp,O.bool_inv,asBool]⟩⟩
  |false=>cases s;exact⟨_,H,h,.inl ⟨rfl,rfl,rfl,rfl,_,dQ F X,λw=>by simp[execOp,O.bool_inv,asBool]⟩⟩
 |alloc T=>
  have⟨g,H',s,h⟩:=pY (show Ae (Jm tb T H) k=some r from h);exact⟨g,H',h,.does Z (MC B E s) (λv I j=>by simp[execOp,j])⟩
 |box T x=>
  have⟨v,A,h⟩:=aH.1 (show ob (nK σ x) _=some r from h);have⟨g,H',s,h⟩:=pY h;exact⟨g,H',h,.does Z (aeK (T:=T) E (dQ F A) s) (λv I j=>by simp[execOp,j])⟩
 | build T ps =>
  have⟨vs,G,h⟩:=aH.1 (show ob (Aa σ ps.toList) _=some r from h);have⟨g,s,h⟩:=aH.1 h;exact⟨g,H,h,.comp Z (QN B (Hk F G) s) (λw v j=>by
   have e:(ps.toList.map λp=>(p.1,a.eval p.2)).toArray=ps.map λp=>(p.1,a.eval p.2):=by apply Array.toList_inj.1;simp
   rw[e]at j;simp[execOp,j])⟩
 | buildSlice T m ps =>
  have⟨vs,G,h⟩:=aH.1 (show ob (Aa σ ps.toList) _=some r from h);have⟨g,H',s,h⟩:=pY h;exact⟨g,H',h,.does Z (Ws B E (Hk F G) s) (λv I j=>by
   have e:(ps.toList.map λp=>(p.1,a.eval p.2)).toArray=ps.map λp=>(p.1,a.eval p.2):=by apply Array.toList_inj.1;simp
   rw[e]at j;simp[execOp,j])⟩
 |load T x=>
  have⟨v,A,h⟩:=aH.1 (show ob (nK σ x) _=some r from h);have⟨g,s,h⟩:=aH.1 h;have⟨x',p,l,Q,W,U,ab,j⟩:=Ps (P:=P) B E (dQ F A) s;exact⟨g,H,h,.inr (.inl ⟨rfl,rfl,rfl,x',p.1,l,by show ob (nK σ x) _=_;rw[A,Q];rfl,W,U,ab,λI aa=>by have:=j I aa;simp[execOp,this]⟩)⟩
 |store T x y=>
  have⟨v,A,h⟩:=aH.1 (show ob (nK σ x) _=some r from h);have⟨u,C,h⟩:=aH.1 h;have⟨g,H',s,h⟩:=pY h;exact⟨g,H',h,.act Z (MF B E (dQ F A) (dQ F C) s) (λI j=>by simp[execOp,j])⟩
 |nilCheck x=>
  have⟨v,A,h⟩:=aH.1 (show ob (nK σ x) _=some r from h);have⟨g,s,hk⟩:=aH.1 h;obtain⟨rfl,j⟩:=Ub (P:=P) (dQ F A) s;exact⟨_,H,hk,.inl ⟨rfl,rfl,rfl,rfl,_,dQ F A,λw=>j _ x a.eval Z Z w⟩⟩
 | binOp K T x y T' =>
  have⟨v,A,h⟩:=aH.1 (show ob (nK σ x) _=some r from h);have⟨u,C,h⟩:=aH.1 h;have⟨g,s,h⟩:=aH.1 h;exact⟨g,H,h,.comp Z (XX B x y (dQ F A) (dQ F C) s) (λw v j=>by
   simp only[execOp];simp at j ⊢;cases hq:Sem.run P (eqGuard K T x y (a.eval x) (a.eval y)) w with
   |ok u w1=>rw[hq]at j;simp at j;simp[j]
   |halt h1 w1=>rw[hq]at j;cases j)⟩
 |unOp K T x=>
  have⟨v,A,h⟩:=aH.1 (show ob (nK σ x) _=some r from h);have⟨g,s,h⟩:=aH.1 h;exact⟨g,H,h,.comp Z (acd (dQ F A) s) (λw v j=>by simp[execOp,j])⟩
 |convert S D x=>
  have⟨v,A,h⟩:=aH.1 (show ob (nK σ x) _=some r from h);have⟨g,s,h⟩:=aH.1 h;exact⟨g,H,h,.comp Z (Uz B (dQ F A) s) (λw v j=>by simp[execOp,j])⟩
 | makeFunc fn first caps =>
  cases fn with
  |func f=>
   have⟨us,Y,h⟩:=aH.1 (show ob (Kt σ first.toList) _=some r from h);have⟨vs,G,h⟩:=aH.1 h;refine⟨_,H,h,.inl ⟨rfl,rfl,rfl,rfl,_,Rl.fn' (Jw F Y) (Jw F G),λw=>?_⟩⟩
   have M:(first.toList.map a.eval).toArray=first.map a.eval:=by apply Array.toList_inj.1;simp
   have N:(caps.toList.map a.eval).toArray=caps.map a.eval:=by apply Array.toList_inj.1;simp
   rw[M,N];simp[execOp,Instr.makeFunc]
  |_=>cases h
 | makeMap T q =>
  cases q with
  |none=>
   have⟨g,H',s,h⟩:=pY (show Ae (LC H) k=some r from h);exact⟨g,H',h,.does Z (UB (T:=T) E s) (λv I j=>by simp[execOp,j])⟩
  |some x=>cases h
 |makeSlice T x y=>
  have⟨v,A,h⟩:=aH.1 (show ob (nK σ x) _=some r from h);have⟨u,C,h⟩:=aH.1 h;have⟨g,H',s,h⟩:=pY h;exact⟨g,H',h,.does Z (ab_ B E (dQ F A) (dQ F C) s) (λv I j=>by simp[execOp,j])⟩
 | slice T x lo hi mx =>
  cases mx with
  |none=>
   have⟨v,A,h⟩:=aH.1 (show ob (nK σ x) _=some r from h);have⟨l,W,h⟩:=aH.1 h;have⟨e,Q,h⟩:=aH.1 h;have⟨g,s,h⟩:=aH.1 h;exact⟨g,H,h,.comp Z (QQ B (.inl ⟨_,_,E⟩) (dQ F A) (NK F W) (NK F Q) s) (λw v j=>by simp[execOp,j])⟩
  |some y=>cases h
 |fieldAddr T x f=>
  have⟨v,A,h⟩:=aH.1 (show ob (nK σ x) _=some r from h);have⟨g,s,h⟩:=aH.1 h;exact⟨g,H,h,.comp Z (QO B (dQ F A) s) (λw v j=>by simp[execOp,j])⟩
 |field T x f=>
  have⟨v,A,h⟩:=aH.1 (show ob (nK σ x) _=some r from h);have⟨g,s,h⟩:=aH.1 h;exact⟨g,H,h,.comp Z (UC B (dQ F A) s) (λw v j=>by simp[execOp,j])⟩
 |indexAddr T x y=>
  have⟨v,A,h⟩:=aH.1 (show ob (nK σ x) _=some r from h);have⟨u,C,h⟩:=aH.1 h;have⟨g,s,h⟩:=aH.1 h;exact⟨g,H,h,.comp Z (QP B (dQ F A) (dQ F C) s) (λw v j=>by simp[execOp,j])⟩
 |index T x y=>
  have⟨v,A,h⟩:=aH.1 (show ob (nK σ x) _=some r from h);have⟨u,C,h⟩:=aH.1 h;have⟨g,s,h⟩:=aH.1 h;exact⟨g,H,h,.comp Z (abT B (dQ F A) (dQ F C) s) (λw v j=>by simp[execOp,j])⟩
 |lookup T x y ok=>
  have⟨v,A,h⟩:=aH.1 (show ob (nK σ x) _=some r from h);have⟨u,C,h⟩:=aH.1 h;have⟨g,s,h⟩:=aH.1 h;exact⟨g,H,h,.read Z Z (abZ B E (dQ F A) (dQ F C) s) (λv j=>by simp[execOp,j])⟩
 |mapUpdate T x y z=>
  have⟨v,A,h⟩:=aH.1 (show ob (nK σ x) _=some r from h);have⟨u,C,h⟩:=aH.1 h;have⟨t,X,h⟩:=aH.1 h;have⟨g,H',s,h⟩:=pY h;exact⟨g,H',h,.act Z (Zd B E (dQ F A) (dQ F C) (dQ F X) s) (λI j=>by simp[execOp,j])⟩
 |extract x i=>
  have⟨v,A,h⟩:=aH.1 (show ob (nK σ x) _=some r from h);have⟨g,s,h⟩:=aH.1 h;exact⟨g,H,h,.comp Z (XZ (dQ F A) s) (λw v j=>by simp[execOp,j])⟩
 | call c =>
  have⟨L,xs,ts⟩:=c;cases L with
  |value f=>exact YN V F E h
  |invoke x m=>cases h
  |builtin b=>
   refine aeg B F E ?_ h;rcases J with J|⟨c,f,M,N⟩
   .exact zA4 J
   .cases M;cases N
 |_=>cases h
end
theorem Io {R:Type}:∀(a:vV) (b:V6 GV) (f:GF->V1 R),mZ a b f=ob (mZ a b some) f
 | [],[],f=>rfl
 | [],_::_,f=>rfl
 |key::a,[],f=>rfl
 |key::a,v::b,f=>by
  show mZ a b (λc=>f ((key,v)::c))=ob (mZ a b λc=>some ((key,v)::c)) f;rw[Io a b (λc=>f ((key,v)::c)),Io a b (λc=>some ((key,v)::c))];cases mZ a b some<;>rfl
theorem vC {R:Type} {a:vV} {b:V6 GV} {f:GF->V1 R} {r:R} (h:mZ a b f=some r):∃c,mZ a b some=some c/\f c=some r:=by
 rw[Io]at h;exact aH.1 h
theorem NQ {j:iP} {n:Nat} {f:GF} {a:Act} (F:oK j n f a):∀{d:vV} {b:GF},mZ d (Hr f d) some=some b->oK j n b a
 | [],b,h=>by cases h;exact⟨F.defers,F.size,λt g c=>by cases c⟩
 | key :: d, b, h =>by
  have k:mZ d (Hr f d) (λb=>some ((key,Option.casesOn (motive:=λ_=>GV) (JJ f key) .bad (λv=>v))::b))=some b:=h;have⟨s,l,m⟩:=vC k;cases m;have o:=NQ F l;refine⟨F.defers,F.size,λt g c=>?_⟩
  rw[Fx]at c;by_cases e:t=key
  .subst e;rw[if_pos Z]at c;cases i:JJ f t with
   |none=>rw[i]at c;cases c;exact .bad _
   |some v=>rw[i]at c;cases c;exact F.slot t v i
  .rw[if_neg e]at c;exact o.slot t g c
theorem Sb (c:GF):∀b:vV,∃a,mZ b (Hr c b) some=some a
 | []=>⟨[],rfl⟩
 |key::b=>by
  have⟨a,h⟩:=Sb c b;refine⟨(key,Option.casesOn (motive:=λ_=>GV) (JJ c key) .bad (λv=>v))::a,?_⟩
  show mZ b (Hr c b) (λa=>some ((key,Option.casesOn (motive:=λ_=>GV) (JJ c key) .bad (λv=>v))::a))=_;rw[Io,h];rfl
theorem Og:∀{m i:Nat} {b:V6 GV} {a:GF},mZ (List.range' i m) b some=some a->b.length=m
 |0,i,[],a,h=>rfl
 |0,i,_::_,a,h=>by cases h
 |m+1,i,[],a,h=>by cases h
 |m+1,i,u::b,a,h=>by
  have⟨s,c,_⟩:=vC (show mZ (List.range' (i+1) m) b (λa=>some ((i,u)::a))=some a from h);simp[Og c]
theorem Rh {o:iP} {n:Nat} {a:Act} (k:a.defers=[]) (l:a.tmps.size=n):∀{m i:Nat} {f:V6 GV} {d:oA} {b:GF},zX o f d->(∀j v,d[j]?=some v->a.tmps[i+j]?=some v)->mZ (List.range' i m) f some=some b->oK o n b a
 |0,i,[],d,b,_,_,h=>by cases h;exact⟨k,l,λt g c=>by cases c⟩
 |0,i,_::_,d,b,_,_,h=>by cases h
 |m+1,i,[],d,b,_,_,h=>by cases h
 | m + 1, i, u :: f, d, b, hr, ha, h =>by
  obtain⟨v,d,rfl,q,r⟩:=hr.of_cons;have p:mZ (List.range' (i+1) m) f (λb=>some ((i,u)::b))=some b:=h;have⟨s,w,x⟩:=vC p;cases x;have z:=Rh k l r (λj v y=>by have:=ha (j+1) v (by simpa using y);rwa[show i+(j+1)=i+1+j by omega]at this) w;refine⟨k,l,λt g c=>?_⟩
  rw[Fx]at c;by_cases e:t=i
  .subst e;rw[if_pos Z]at c;cases c;have:=ha 0 v Z;simp[Act.eval,show a.tmps[t]?=some v by simpa using this,q]
  .rw[if_neg e]at c;exact z.slot t g c
def Ms (n:Nat) (o:V5):V4:=lW o&&(match o.dst with|none=>true|some d=>Nat.blt d n)&&(OO o.op||(match o.op with|.call c=>(match c.callee with|.value _=>true|_=>false)|_=>false))
section
variable {P:Program} {tb:TB} {gs:FX} {w0:lJ gs}
theorem zM {n:Nat} {o:V5} (h:Ms n o=true):lW o=true/\(∀d,o.dst=some d->d<n)/\(OO o.op=true\/∃c f,o.op = .call c/\c.callee = .value f):=by
 unfold Ms at h;simp only[zA5,Bool.or_eq_true]at h;have⟨⟨j,g⟩,a⟩:=h;refine⟨j,λd k=>?_,?_⟩
 .rw[k]at g;simpa [zAp]using g
 .rcases a with a|a
  .exact .inl a
  .right;cases i:o.op with
   |call c=>
    rw[i]at a;cases e:c.callee with
    |value f=>exact⟨c,f,rfl,e⟩
    |invoke x m=>simp only[e]at a;cases a
    |builtin b=>simp only[e]at a;cases a
   |_=>rw[i]at a;cases a
theorem oK.putD {b:iP} {n:Nat} {c:GF} {a:Act} (F:oK b n c a) {d:V1 Nat} (e:∀x,d=some x->x<n) {g:GV} {v:V0} (f:Rl b g v):oK b n (putD d g c) (a.put d v):=by
 cases d with
 |none=>exact⟨F.defers,F.size,F.slot⟩
 |some d=>exact F.put (e d Z) f
theorem adW {x:CH} (I:iR P tb) (t:xA P w0 x) {all:V6 V5} {n:Nat} {o:V5} {k:GS->RS} {s:GS} {f:Tc} {E:iP} {a:Act} {w:V2} (L:Ms n o=true) (F:oK E n s.σ a) (R:lP w0 E s.H w) (h:Ot tb x all o k s=some f):
  (Region.wanted o (yielded all.toArray a.tmps)=true/\∃g j,k ⟨putD o.dst g s.σ,j⟩=some f/\He P w0 E s.σ a w o g s.H j)\/
  (Region.wanted o (yielded all.toArray a.tmps)=false/\k ⟨putD o.dst .un s.σ,s.H⟩=some f):=by
 have⟨Q,S,G⟩:=zM L;unfold Ot at h;cases r:o.guard with
 |none=>
  rw[r]at h;have⟨g,j,B,C⟩:=VD I t F R G (show SK tb x o.op s.σ s.H (Lb o.dst s k)=some f from h);exact .inl ⟨by simp[Region.wanted,r],g,j,B,C⟩
 | some gd =>
  rw[r]at h;have⟨T,u,h⟩:=aH.1 (show ob (LK all gd.1) _=some f from h);have⟨l,A,h⟩:=aH.1 h;have⟨v,N,h⟩:=aH.1 h;have⟨g,j,m,p⟩:=pY h;have e:=F.slot l v N;rw[Ab]at u;have D:yielded all.toArray a.tmps gd.1=(match a.tmps[l]? with|some (.bool b)=>some b|_=>none):=by
   unfold yielded;have:(all.toArray[gd.1]?).bind (·.dst)=some l:=by simp[u,A]
   rw[this];rfl
  cases v with
  | bool q =>
   have d:=e.bool_inv;have M:a.tmps[l]?=some (.bool q):=by
    simp only[Act.eval,Array.getD_eq_getD_getElem?]at d;cases y:a.tmps[l]? with
    |none=>rw[y]at d;cases d
    |some z=>rw[y]at d;simp at d;rw[d]
   rw[M]at D;have c:Bool.casesOn (motive:=λ_=>OR) (Xk q gd.2) (some (.un,s.H)) (SK tb x o.op s.σ s.H MZ)=some (g,j):=m;rw[Kq]at c;have J:Region.wanted o (yielded all.toArray a.tmps)=(q==gd.2):=by
    simp only[Region.wanted,r];rw[D];cases q<;>cases gd.2<;>rfl
   cases i:(q==gd.2)with
   |true=>
    rw[i]at c;have⟨O,K,B,C⟩:=VD I t F R G (show SK tb x o.op s.σ s.H MZ=some (g,j)from c);cases B;exact .inl ⟨by rw[J,i],g,j,p,C⟩
   |false=>
    rw[i]at c;cases c;exact .inr ⟨by rw[J,i],p⟩
  | un =>
   have d:=e.un_inv;cases m;refine .inr ⟨?_,p⟩;simp only[Region.wanted,r];rw[D];have:(match a.tmps[l]? with|some (.bool b)=>some b|_=>none)=(none:V1 V4):=by
    simp only[Act.eval,Array.getD_eq_getD_getElem?]at d;cases y:a.tmps[l]? with
    |none=>rfl
    |some z=>rw[y]at d;simp at d;rw[d];rfl
   rw[this];rfl
  |_=>cases m
theorem KS {y:CH} (z:iR P tb) (f:xA P w0 y) {all:V6 V5} {n:Nat} {k:GS->RS} {p:Tc} {Q:Exit->Act->V2->Prop}:∀(l:V6 V5) (s:GS) (c:iP) (a:Act) (w:V2),l.all (Ms n)=true->oK c n s.σ a->lP w0 c s.H w->JS tb y all k l s=some p->
  (∀t b x q,k t=some p->c.le b->oK b n t.σ x->lP w0 b t.H q->Q .normal x q)->Sx.wpList P all.toArray Q l a w
 | [],s,c,a,w,_,F,R,h,hk=>hk s c a w h (iP.le_refl _) F R
 | o :: l, s, c, a, w, hl, F, R, h, hk =>by
  simp only[List.all_cons,zA5]at hl;have⟨_,e,_⟩:=zM hl.1;rcases adW z f hl.1 F R (show Ot tb y all o (JS tb y all k l) s=some p from h)with⟨A,g,C,i,K⟩|⟨A,i⟩
  .refine qK A ?_;have d:∀b q v,c.le b->lP w0 b C q->Rl b g v->Sx.wpList P all.toArray Q l (a.put o.dst v) q:=λb q v r D m=>
    KS z f l ⟨putD o.dst g s.σ,C⟩ b _ q hl.2 ((F.le r).putD e m) D i (λt u x B E G I J=>hk t u x B E (iP.le_trans r G) I J)
   rcases K with⟨_,_,_,rfl,v,m,j⟩|⟨_,_,rfl,v,_,_,_,_,_,m,j⟩|⟨_,_,rfl,v,m,j⟩|⟨_,j⟩
   .simp only[Oper.wp,j w,Oper.upon];exact d c w v (iP.le_refl _) R m
   .simp only[Oper.wp,j w Z,Oper.upon];exact d c w v (iP.le_refl _) R m
   .simp only[Oper.wp,j,Oper.upon];exact d c w v (iP.le_refl _) R m
   .exact OM (j _ d)
  .unfold Sx.wpList;rw[if_neg (by rw[A];simp)];exact KS z f l ⟨putD o.dst .un s.σ,s.H⟩ c _ w hl.2 (F.putD e .un) R i hk
theorem Lc {l:V6 V5} {p:Op->V4} (h:JA l p=true) {i j:Nat} {e f:V5} (c:l[i]?=some e) (d:l[j]?=some f) (k:p e.op=true) (g:gI f.op=true):before (sX l) i j=true\/before (sX l) j i=true:=by
 unfold JA at h;have a:=zA2.1 h i (zAg.2 (bM c));simp only[c,k,Bool.not_true,Bool.false_or]at a;have b:=zA2.1 a j (zAg.2 (bM d));simp only[d,g,Bool.not_true,Bool.false_or,Bool.or_eq_true]at b;exact b
theorem UF {c:Type} {H:GH} {h v:Nat} {k:V1 c} {a:c} (x:vck H h v k=some a):H.ver h=some v/\k=some a:=by
 have⟨u,d,x⟩:=aH.1 (show ob (H.ver h) _=some a from x);cases b:Nat.beq u v with
 |false=>rw[b]at x;cases x
 |true=>rw[b]at x;rw[d,zA4 b];exact⟨rfl,x⟩
theorem IP {m:V6 Nat} {i:Nat} {H:GH} {u:Unit}:∀{e:V6 (Nat×V1 (Nat×Nat))},On m i H e=some u->∀p∈e,before m i p.1=false->∀a,p.2=some a->H.ver a.1=some a.2
 | [],h=>λp o=>by simp at o
 | p :: e, h =>by
  have c:Bool.casesOn (motive:=λ_=>V1 Unit) (before m i p.1) (pck H p.2 (On m i H e)) (On m i H e)=some u:=h;intro q d b a j;cases g:before m i p.1 with
  | false =>
   rw[g]at c;have k:(∀a,p.2=some a->H.ver a.1=some a.2)/\On m i H e=some u:=by
    cases f:p.2 with
    |none=>rw[f]at c;exact⟨λ_ h=>(by cases h),c⟩
    |some x=>rw[f]at c;have⟨l,n⟩:=UF (show vck H x.1 x.2 _=some u from c);exact⟨λy r=>by cases r;exact l,n⟩
   rcases zAi.1 d with rfl|d
   .exact k.1 a j
   .exact IP k.2 q d b a j
  |true=>
   rw[g]at c;rcases zAi.1 d with rfl|d
   .rw[g]at b;cases b
   .exact IP c q d b a j
theorem IQ {m:V6 Nat} {i h v:Nat} {e:V1 (Nat×Nat)}:∀{c:V6 (Nat×GH)},Oo m i h v c=some e->e=some (h,v)/\∀q∈c,before m i q.1=false->q.2.ver h=some v
 | [],x=>by cases x;exact⟨rfl,λp b=>by simp at b⟩
 | q :: c, x =>by
  have d:Bool.casesOn (motive:=λ_=>V1 (V1 (Nat×Nat))) (before m i q.1) (vck q.2 h v (Oo m i h v c)) (Oo m i h v c)=some e:=x;cases j:before m i q.1 with
  |false=>
   rw[j]at d;have⟨k,l⟩:=UF d;have⟨f,g⟩:=IQ l;refine⟨f,λp b a=>?_⟩
   rcases zAi.1 b with rfl|b
   .exact k
   .exact g p b a
  |true=>
   rw[j]at d;have⟨f,g⟩:=IQ d;refine⟨f,λp b a=>?_⟩
   rcases zAi.1 b with rfl|b
   .rw[j]at a;cases a
   .exact g p b a
end
section
variable {R α:Type}
theorem Dt (r:OR) (k:GV->GH->V1 R):Ae r k=Ae (Ae r MZ) k:=by
 cases r with
 |none=>rfl
 |some p=>rfl
theorem fS (x:V1 α) {f:α->V1 R} {g:α->OR} {k:GV->GH->V1 R} (h:∀a,f a=Ae (g a) k):ob x f=Ae (ob x g) k:=by
 cases x with
 |none=>rfl
 |some a=>exact h a
theorem aec {n:TB} {s:CH} {d:GF} {H:GH} (o:Op) (k:GV->GH->V1 R):SK n s o d H k=Ae (SK n s o d H MZ) k:=by
 have e:∀x (f:GV->V1 GV),k1 x f d H k=Ae (k1 x f d H MZ) k:=λx f=>fS _ λx=>fS _ λv=>fS _ λg=>rfl;have j:∀x y (f:GV->GV->V1 GV),k2 x y f d H k=Ae (k2 x y f d H MZ) k:=λx y f=>fS _ λx=>fS _ λv=>fS _ λu=>fS _ λg=>rfl;have B:∀x y z (f:GV->GV->GV->V1 GV),k3 x y z f d H k=Ae (k3 x y z f d H MZ) k:=λx y z f=>fS _ λx=>fS _ λv=>fS _ λu=>fS _ λt=>fS _ λg=>rfl;cases o with
 |move x=>exact fS _ λv=>rfl
 |assign x=>exact fS _ λv=>rfl
 |pick c x y=>exact B _ _ _ _
 |alloc T=>exact Dt _ _
 |box T x=>exact fS _ λv=>Dt _ _
 |build T G=>exact fS _ λJ=>fS _ λg=>rfl
 |buildSlice T m G=>exact fS _ λx=>Dt _ _
 |load T x=>exact fS _ λv=>fS _ λg=>rfl
 |store T x y=>exact fS _ λv=>fS _ λu=>Dt _ _
 |nilCheck x=>exact e _ _
 |binOp F T x y A=>exact j _ _ _
 |unOp F T x=>exact e _ _
 |convert S D x=>exact e _ _
 |makeFunc C first r=>
  cases C with
  |func f=>exact fS _ λI=>fS _ λJ=>rfl
  |_=>rfl
 |makeMap T q=>
  cases q with
  |none=>exact Dt _ _
  |some x=>rfl
 |makeSlice T x y=>exact fS _ λv=>fS _ λu=>Dt _ _
 |slice T x L K E=>
  cases E with
  |none=>exact fS _ λv=>fS _ λl=>fS _ λh=>fS _ λg=>rfl
  |some y=>rfl
 |fieldAddr T x f=>exact e _ _
 |field T x f=>exact e _ _
 |indexAddr T x y=>exact j _ _ _
 |index T x y=>exact j _ _ _
 |lookup T x y M=>exact fS _ λv=>fS _ λu=>fS _ λg=>rfl
 |mapUpdate T x y z=>exact fS _ λv=>fS _ λu=>fS _ λt=>Dt _ _
 |extract x i=>exact e _ _
 | call c =>
  have⟨p,a,w⟩:=c;cases p with
  |value f=>exact fS _ λv=>fS _ λg=>fS _ λI=>Dt _ _
  |invoke x m=>rfl
  | builtin b =>
   show VI n a w b d H k=Ae (VI n a w b d H MZ) k;have⟨a⟩:=a;cases b with
   |len=>
    match a with
    | []=>rfl
    | [x]=>exact fS _ λT=>fS _ λv=>fS _ λg=>rfl
    |_::_::_=>rfl
   |max=>
    match a with
    | []=>rfl
    | [x]=>rfl
    | [x,y]=>exact j _ _ _
    |_::_::_::_=>rfl
   |min=>
    match a with
    | []=>rfl
    | [x]=>rfl
    | [x,y]=>exact j _ _ _
    |_::_::_::_=>rfl
   |append=>
    match a with
    | []=>rfl
    | [x]=>rfl
    | [x,y]=>exact fS _ λT=>fS _ λA=>fS _ λv=>fS _ λu=>Dt _ _
    |_::_::_::_=>rfl
   |copy=>
    match a with
    | []=>rfl
    | [x]=>rfl
    | [x,y]=>exact fS _ λT=>fS _ λv=>fS _ λu=>Dt _ _
    |_::_::_::_=>rfl
   |cap=>
    match a with
    | []=>rfl
    | [x]=>exact fS _ λT=>fS _ λv=>fS _ λg=>rfl
    |_::_::_=>rfl
   |_=>rfl
 |_=>rfl
theorem HR {b a:GF}:∀{xs:V6 V3},(∀x∈xs,nK b x=nK a x)->Kt b xs=Kt a xs
 | [],_=>rfl
 |x::xs,h=>by
  show ob (nK b x) (λv=>ob (Kt b xs) λc=>some (v::c))=ob (nK a x) (λv=>ob (Kt a xs) λc=>some (v::c));rw[h x zAd,HR λy d=>h y (zAk _ d)]
theorem HS {b a:GF}:∀{xs:V6 (Nat×V3)},(∀x∈xs,nK b x.2=nK a x.2)->Aa b xs=Aa a xs
 | [],_=>rfl
 |x::xs,h=>by
  show ob (nK b x.2) (λv=>ob (Aa b xs) λc=>some ((x.1,v)::c))=ob (nK a x.2) (λv=>ob (Aa a xs) λc=>some ((x.1,v)::c));rw[h x zAd,HS λy d=>h y (zAk _ d)]
theorem Oy {b a:GF} {o:V1 V3} (h:∀x∈o.toArray,nK b x=nK a x):Mk b o=Mk a o:=by
 cases o with
 |none=>rfl
 |some x=>
  show ob (nK b x) (λv=>some (some v))=ob (nK a x) (λv=>some (some v));rw[h x V8]
theorem YI {n:TB} {G:CH} {j a:GF} {H:GH} {o:Op} {k:GV->GH->V1 R} (h:∀x∈o.operands,nK j x=nK a x):SK n G o j H k=SK n G o a H k:=by
 have s:∀x (f:GV->V1 GV),nK j x=nK a x->k1 x f j H k=k1 x f a H k:=λx f e=>by simp only[k1,ob,e]
 have t:∀x y (f:GV->GV->V1 GV),nK j x=nK a x->nK j y=nK a y->k2 x y f j H k=k2 x y f a H k:=λx y f e w=>by simp only[k2,ob,e,w]
 have J:∀x y z (f:GV->GV->GV->V1 GV),nK j x=nK a x->nK j y=nK a y->nK j z=nK a z->k3 x y z f j H k=k3 x y z f a H k:=λx y z f e w A=>by simp only[k3,ob,e,w,A]
 cases o with
 |move x=>show MQ x j H k=MQ x a H k;simp only[MQ,ob,h x (by simp[Op.operands])]
 |assign x=>show MQ x j H k=MQ x a H k;simp only[MQ,ob,h x (by simp[Op.operands])]
 |pick c x y=>exact J _ _ _ _ (h _ (by simp[Op.operands])) (h _ (by simp[Op.operands])) (h _ (by simp[Op.operands]))
 |alloc T=>rfl
 |box T x=>show aef x j H k=aef x a H k;simp only[aef,ob,h x (by simp[Op.operands])]
 | build T ps =>
  show ob (Aa j ps.toList) _=ob (Aa a ps.toList) _;rw[HS λx d=>h x.2 (by
   have:x∈ps:=by simpa using d
   simp only[Op.operands,List.mem_toArray,zB5];exact⟨x,d,rfl⟩)]
 | buildSlice T m ps =>
  show ob (Aa j ps.toList) _=ob (Aa a ps.toList) _;rw[HS λx d=>h x.2 (by
   simp only[Op.operands,List.mem_toArray,zB5];exact⟨x,d,rfl⟩)]
 |load T x=>show Xs n T x j H k=Xs n T x a H k;simp only[Xs,ob,h x (by simp[Op.operands])]
 |store T x y=>show RI n T x y j H k=RI n T x y a H k;simp only[RI,ob,h x (by simp[Op.operands]),h y (by simp[Op.operands])]
 |nilCheck x=>exact s _ _ (h _ (by simp[Op.operands]))
 |binOp L T x y M=>exact t _ _ _ (h _ (by simp[Op.operands])) (h _ (by simp[Op.operands]))
 |unOp L T x=>exact s _ _ (h _ (by simp[Op.operands]))
 |convert S D x=>exact s _ _ (h _ (by simp[Op.operands]))
 | makeFunc fn first caps =>
  cases fn with
  | func f =>
   show ob (Kt j first.toList) _=ob (Kt a first.toList) _;rw[HR λx d=>h x (by simp only[Op.operands,Array.mem_append];exact .inl (by simpa using d)),
    HR (xs:=caps.toList) λx d=>h x (by simp only[Op.operands,Array.mem_append];exact .inr (by simpa using d))]
  |_=>rfl
 |makeMap T q=>
  cases q with
  |none=>rfl
  |some x=>rfl
 |makeSlice T x y=>show Xu n T x y j H k=Xu n T x y a H k;simp only[Xu,ob,h x (by simp[Op.operands]),h y (by simp[Op.operands])]
 | slice T x lo hi mx =>
  cases mx with
  |none=>
   show ob (some x) (λx=>ob (nK j x) λv=>ob (Mk j lo) λl=>ob (Mk j hi) λh=>ob (Jn n T v l h H) λg=>k g H)=ob (some x) (λx=>ob (nK a x) λv=>ob (Mk a lo) λl=>ob (Mk a hi) λh=>ob (Jn n T v l h H) λg=>k g H);have C:Mk j lo=Mk a lo:=Oy λy F=>h y (by simp only[Op.operands,Array.mem_append];exact .inl (.inl (.inr F)));have B:Mk j hi=Mk a hi:=Oy λy F=>h y (by simp only[Op.operands,Array.mem_append];exact .inl (.inr F));have d:nK j x=nK a x:=h x (by simp only[Op.operands,Array.mem_append];exact .inl (.inl (.inl V8)));simp only[ob,C,B,d]
  |some y=>rfl
 |fieldAddr T x f=>exact s _ _ (h _ (by simp[Op.operands]))
 |field T x f=>exact s _ _ (h _ (by simp[Op.operands]))
 |indexAddr T x y=>exact t _ _ _ (h _ (by simp[Op.operands])) (h _ (by simp[Op.operands]))
 |index T x y=>exact t _ _ _ (h _ (by simp[Op.operands])) (h _ (by simp[Op.operands]))
 |lookup T x y I=>show Xt n T x y I j H k=Xt n T x y I a H k;simp only[Xt,ob,h x (by simp[Op.operands]),h y (by simp[Op.operands])]
 |mapUpdate T x y z=>show RH n T x y z j H k=RH n T x y z a H k;simp only[RH,ob,h x (by simp[Op.operands]),h y (by simp[Op.operands]),h z (by simp[Op.operands])]
 |extract x i=>exact s _ _ (h _ (by simp[Op.operands]))
 | call c =>
  have⟨u,p,r⟩:=c;cases u with
  |value f=>
   have K:nK j f=nK a f:=h f (by simp[Op.operands,Call.operands]);have E:Kt j p.toList=Kt a p.toList:=HR λx d=>h x (by simp[Op.operands,Call.operands];exact .inr (by simpa using d));show ob (nK j f) _=ob (nK a f) _;simp only[ob,K,E]
  |invoke x m=>rfl
  | builtin b =>
   show VI n p r b j H k=VI n p r b a H k;have d:∀x∈p,nK j x=nK a x:=λx d=>h x (by simp[Op.operands,Call.operands];exact d);have⟨p⟩:=p;cases b with
   |len=>
    match p,d with
    | [],_=>rfl
    | [x],d=>show YP n r.toList x j H k=YP n r.toList x a H k;simp only[YP,ob,d x V8]
    |_::_::_,_=>rfl
   |max=>
    match p,d with
    | [],_=>rfl
    | [x],_=>rfl
    | [x,y],d=>exact t _ _ _ (d _ V8) (d _ V8)
    |_::_::_::_,_=>rfl
   |min=>
    match p,d with
    | [],_=>rfl
    | [x],_=>rfl
    | [x,y],d=>exact t _ _ _ (d _ V8) (d _ V8)
    |_::_::_::_,_=>rfl
   |append=>
    match p,d with
    | [],_=>rfl
    | [x],_=>rfl
    | [x,y],d=>show aaX n r.toList x y j H k=aaX n r.toList x y a H k;simp only[aaX,ob,d x V8,d y V8]
    |_::_::_::_,_=>rfl
   |copy=>
    match p,d with
    | [],_=>rfl
    | [x],_=>rfl
    | [x,y],d=>show TR n r.toList x y j H k=TR n r.toList x y a H k;simp only[TR,ob,d x V8,d y V8]
    |_::_::_::_,_=>rfl
   |cap=>
    match p,d with
    | [],_=>rfl
    | [x],d=>show YO n r.toList x j H k=YO n r.toList x a H k;simp only[YO,ob,d x V8]
    |_::_::_,_=>rfl
   |_=>rfl
 |_=>rfl
end
noncomputable def JI (c:TB) (b:CH) (all:V6 V5) (o:V5) (a:GF) (H:GH):OR:=Option.casesOn (motive:=λ_=>OR) o.guard (SK c b o.op a H MZ) λg=>ob (LK all g.1) λe=>ob e.dst λd=>ob (JJ a d) λv=>evG c b o ⟨a,H⟩ g.2 v
theorem adV {b:TB} {a:CH} {all:V6 V5} {o:V5} {k:GS->RS} {s:GS}:Ot b a all o k s=Ae (JI b a all o s.σ s.H) (Lb o.dst s k):=by
 unfold Ot JI;cases o.guard with
 |none=>exact aec _ _
 |some g=>exact fS _ λd=>fS _ λc=>fS _ λv=>rfl
theorem Jv {d:TB} {c:CH} {all:V6 V5} {o:V5} {k:GS->RS} {s:GS} {a:Tc} (h:Ot d c all o k s=some a):∃g b,JI d c all o s.σ s.H=some (g,b)/\k ⟨putD o.dst g s.σ,b⟩=some a:=by
 rw[adV]at h;have⟨g,b,e,f⟩:=pY h;exact⟨g,b,e,f⟩
theorem Vx {c:TB} {b:CH} {all:V6 V5} {o:V5} {d a:GF} {H:GH} (h:∀t∈o.looksAt all.toArray,JJ d t=JJ a t):JI c b all o d H=JI c b all o a H:=by
 have e:SK c b o.op d H MZ=SK c b o.op a H MZ:=YI λx l=>by
  cases x with
  |tmp t=>exact h t (List.mem_append_left _ (List.mem_filterMap.2 ⟨.tmp t,by simpa using l,rfl⟩))
  |_=>rfl
 unfold JI;cases j:o.guard with
 |none=>exact e
 | some g =>
  show ob (LK all g.1) _=ob (LK all g.1) _;cases f:LK all g.1 with
  |none=>rfl
  | some oj =>
   show ob oj.dst _=ob oj.dst _;cases i:oj.dst with
   |none=>rfl
   | some dj =>
    have k:dj∈o.looksAt all.toArray:=by
     rw[Ab]at f;simp[Oper.looksAt,j,f,i]
    show ob (JJ d dj) (λv=>evG c b o ⟨d,H⟩ g.2 v)=ob (JJ a dj) (λv=>evG c b o ⟨a,H⟩ g.2 v);rw[h dj k];cases JJ a dj with
    |none=>rfl
    | some v =>
     show evG c b o ⟨d,H⟩ g.2 v=evG c b o ⟨a,H⟩ g.2 v;cases v with
     |bool q=>
      show Bool.casesOn (motive:=λ_=>OR) (Xk q g.2) (some (.un,H)) (SK c b o.op d H MZ)=Bool.casesOn (motive:=λ_=>OR) (Xk q g.2) (some (.un,H)) (SK c b o.op a H MZ);rw[e]
     |_=>rfl
section
variable {P:Program} {tb:TB} {gs:FX} {w0:lJ gs}
theorem Ju {u:CH} {all:V6 V5} {n:Nat} {o:V5} {r:GF} {H k:GH} {g:GV} {ρ:iP} {a:Act} (F:oK ρ n r a) (h:JI tb u all o r H=some (g,k)):
  (Region.wanted o (yielded all.toArray a.tmps)=true/\SK tb u o.op r H MZ=some (g,k))\/(Region.wanted o (yielded all.toArray a.tmps)=false/\g = .un/\k=H):=by
 unfold JI at h;cases l:o.guard with
 |none=>
  rw[l]at h;exact .inl ⟨by simp[Region.wanted,l],h⟩
 | some gd =>
  rw[l]at h;have⟨A,m,h⟩:=aH.1 (show ob (LK all gd.1) _=some (g,k)from h);have⟨i,s,h⟩:=aH.1 h;have⟨v,y,j⟩:=aH.1 h;have e:=F.slot i v y;rw[Ab]at m;have t:yielded all.toArray a.tmps gd.1=(match a.tmps[i]? with|some (.bool b)=>some b|_=>none):=by
   unfold yielded;have:(all.toArray[gd.1]?).bind (·.dst)=some i:=by simp[m,s]
   rw[this];rfl
  cases v with
  | bool q =>
   have d:=e.bool_inv;have x:a.tmps[i]?=some (.bool q):=by
    simp only[Act.eval,Array.getD_eq_getD_getElem?]at d;cases p:a.tmps[i]? with
    |none=>rw[p]at d;cases d
    |some z=>rw[p]at d;simp at d;rw[d]
   rw[x]at t;have c:Bool.casesOn (motive:=λ_=>OR) (Xk q gd.2) (some (.un,H)) (SK tb u o.op r H MZ)=some (g,k):=j;rw[Kq]at c;have w:Region.wanted o (yielded all.toArray a.tmps)=(q==gd.2):=by
    simp only[Region.wanted,l];rw[t];cases q<;>cases gd.2<;>rfl
   cases f:(q==gd.2)with
   |true=>rw[f]at c;exact .inl ⟨by rw[w,f],c⟩
   |false=>rw[f]at c;cases c;exact .inr ⟨by rw[w,f],rfl,rfl⟩
  | un =>
   have d:=e.un_inv;cases j;refine .inr ⟨?_,rfl,rfl⟩;simp only[Region.wanted,l];rw[t];have:(match a.tmps[i]? with|some (.bool b)=>some b|_=>none)=(none:V1 V4):=by
    simp only[Act.eval,Array.getD_eq_getD_getElem?]at d;cases p:a.tmps[i]? with
    |none=>rfl
    |some z=>rw[p]at d;simp at d;rw[d];rfl
   rw[this];rfl
  |_=>cases j
theorem NG {f:CH} (k:iR P tb) (c:xA P w0 f) {all:V6 V5} {n:Nat} {o:V5} {e:GF} {H b:GH} {g:GV} {d:iP} {a:Act} {w:V2} (p:Ms n o=true) (F:oK d n e a) (R:lP w0 d H w) (h:JI tb f all o e H=some (g,b)):
  (Region.wanted o (yielded all.toArray a.tmps)=true/\He P w0 d e a w o g H b)\/(Region.wanted o (yielded all.toArray a.tmps)=false/\g = .un/\b=H):=by
 have⟨_,_,j⟩:=zM p;rcases Ju F h with⟨r,l⟩|h
 .have⟨s,i,m,q⟩:=VD k c F R j l;cases m;exact .inl ⟨r,q⟩
 .exact .inr h
def abK (tb:TB) (T:V9):V4:=match tb T with
 |some t=>(match t.desc with|.array .. =>false|_=>true)
 |none=>false
def pureOp (tb:TB):Op->V4
 | .move _ | .assign _ | .pick .. | .build .. | .nilCheck _ | .binOp .. | .unOp .. | .convert .. | .makeFunc .. | .fieldAddr .. | .field .. | .indexAddr .. | .index .. | .extract .. =>true
 | .slice T _ _ _ _=>abK tb T
 | .call ⟨.builtin .len,_,_⟩ | .call ⟨.builtin .max,_,_⟩ | .call ⟨.builtin .min,_,_⟩=>true
 |_=>false
def isFloat:Op->V4
 | .buildSlice .. | .alloc .. | .box .. | .makeSlice .. =>true
 |_=>false
theorem kH {b:iP} {g:GV} {s:Sem V0} {a:Act} {o:V5} (h:HA P b s g) (c:∀w v,s.run P w = .ok v w->(execOp a.eval o).run P w = .ok (.value v) w):∃v,Rl b g v/\∀w,(execOp a.eval o).run P w = .ok (.value v) w:=
 let ⟨v,hv,hr⟩:=h;⟨v,hv,λw=>c w v (hr w)⟩
theorem aaM {ih:CH} (E:iR P tb) {ρ:iP} {n:Nat} {s:GF} {a:Act} (F:oK ρ n s a) {o:V5} {H r:GH} {g:GV} (R:pureOp tb o.op=true) (aa:OO o.op=true) (h:SK tb ih o.op s H MZ=some (g,r)):
  r=H/\∃v,Rl ρ g v/\∀w,(execOp a.eval o).run P w = .ok (.value v) w:=by
 have⟨d,W,J,ad,ac,gd⟩:=o;cases W with
 |move x=>
  have⟨v,q,h⟩:=aH.1 (show ob (nK s x) _=some (g,r)from h);cases h;exact⟨rfl,_,dQ F q,λw=>by simp[execOp]⟩
 |assign x=>
  have⟨v,q,h⟩:=aH.1 (show ob (nK s x) _=some (g,r)from h);cases h;exact⟨rfl,_,dQ F q,λw=>by simp[execOp]⟩
 |pick c x y=>
  have⟨v,q,h⟩:=aH.1 (show ob (nK s c) _=some (g,r)from h);have⟨u,C,h⟩:=aH.1 h;have⟨t,ht,h⟩:=aH.1 h;have⟨z,k,h⟩:=aH.1 h;cases h;have⟨b,hb,k⟩:=aH.1 (show ob v.asB _=some g from k);have Y:=dQ F q;rw[IJ hb]at Y;cases b with
  |true=>cases k;exact⟨rfl,_,dQ F C,λw=>by simp[execOp,Y.bool_inv,asBool]⟩
  |false=>cases k;exact⟨rfl,_,dQ F ht,λw=>by simp[execOp,Y.bool_inv,asBool]⟩
 | build T ps =>
  have⟨vs,N,h⟩:=aH.1 (show ob (Aa s ps.toList) _=some (g,r)from h);have⟨z,k,h⟩:=aH.1 h;cases h;exact⟨rfl,kH (QN E (Hk F N) k) (λw v j=>by
   have e:(ps.toList.map λp=>(p.1,a.eval p.2)).toArray=ps.map λp=>(p.1,a.eval p.2):=by apply Array.toList_inj.1;simp
   rw[e]at j;simp[execOp,j])⟩
 |nilCheck x=>
  have⟨v,q,h⟩:=aH.1 (show ob (nK s x) _=some (g,r)from h);have⟨z,k,h⟩:=aH.1 h;cases h;obtain⟨rfl,j⟩:=Ub (P:=P) (dQ F q) k;exact⟨rfl,_,dQ F q,λw=>j _ x a.eval Z Z w⟩
 | binOp W T x y T' =>
  have⟨v,q,h⟩:=aH.1 (show ob (nK s x) _=some (g,r)from h);have⟨u,C,h⟩:=aH.1 h;have⟨z,k,h⟩:=aH.1 h;cases h;exact⟨rfl,kH (XX E x y (dQ F q) (dQ F C) k) (λw v j=>by
   simp only[execOp];simp at j ⊢;cases V:Sem.run P (eqGuard W T x y (a.eval x) (a.eval y)) w with
   |ok u w1=>rw[V]at j;simp at j;simp[j]
   |halt h1 w1=>rw[V]at j;cases j)⟩
 |unOp W T x=>
  have⟨v,q,h⟩:=aH.1 (show ob (nK s x) _=some (g,r)from h);have⟨z,k,h⟩:=aH.1 h;cases h;exact⟨rfl,kH (acd (dQ F q) k) (λw v j=>by simp[execOp,j])⟩
 |convert S D x=>
  have⟨v,q,h⟩:=aH.1 (show ob (nK s x) _=some (g,r)from h);have⟨z,k,h⟩:=aH.1 h;cases h;exact⟨rfl,kH (Uz E (dQ F q) k) (λw v j=>by simp[execOp,j])⟩
 | makeFunc fn first caps =>
  cases fn with
  |func f=>
   have⟨us,ab,h⟩:=aH.1 (show ob (Kt s first.toList) _=some (g,r)from h);have⟨vs,N,h⟩:=aH.1 h;cases h;refine⟨rfl,_,Rl.fn' (Jw F ab) (Jw F N),λw=>?_⟩
   have e1:(first.toList.map a.eval).toArray=first.map a.eval:=by apply Array.toList_inj.1;simp
   have e2:(caps.toList.map a.eval).toArray=caps.map a.eval:=by apply Array.toList_inj.1;simp
   rw[e1,e2];simp[execOp,Instr.makeFunc]
  |_=>cases h
 |fieldAddr T x f=>
  have⟨v,q,h⟩:=aH.1 (show ob (nK s x) _=some (g,r)from h);have⟨z,k,h⟩:=aH.1 h;cases h;exact⟨rfl,kH (QO E (dQ F q) k) (λw v j=>by simp[execOp,j])⟩
 |field T x f=>
  have⟨v,q,h⟩:=aH.1 (show ob (nK s x) _=some (g,r)from h);have⟨z,k,h⟩:=aH.1 h;cases h;exact⟨rfl,kH (UC E (dQ F q) k) (λw v j=>by simp[execOp,j])⟩
 |indexAddr T x y=>
  have⟨v,q,h⟩:=aH.1 (show ob (nK s x) _=some (g,r)from h);have⟨u,C,h⟩:=aH.1 h;have⟨z,k,h⟩:=aH.1 h;cases h;exact⟨rfl,kH (QP E (dQ F q) (dQ F C) k) (λw v j=>by simp[execOp,j])⟩
 |index T x y=>
  have⟨v,q,h⟩:=aH.1 (show ob (nK s x) _=some (g,r)from h);have⟨u,C,h⟩:=aH.1 h;have⟨z,k,h⟩:=aH.1 h;cases h;exact⟨rfl,kH (abT E (dQ F q) (dQ F C) k) (λw v j=>by simp[execOp,j])⟩
 | slice T x lo hi mx =>
  cases mx with
  | none =>
   have⟨v,q,h⟩:=aH.1 (show ob (nK s x) _=some (g,r)from h);have⟨l,hl,h⟩:=aH.1 h;have⟨e,he,h⟩:=aH.1 h;have⟨z,k,h⟩:=aH.1 h;cases h;have hA:∀t,tb T=some t->tdA t.desc=none:=λt ht=>by
    have U:abK tb T=true:=R;unfold abK at U;rw[ht]at U;simp only at U;cases V:t.desc<;>rw[V]at U<;>first|rfl|cases U
   exact⟨rfl,kH (QQ (gs:=noG) E (.inr hA) (dQ F q) (NK F hl) (NK F he) k) (λw v j=>by simp[execOp,j])⟩
  |some y=>cases h
 |extract x i=>
  have⟨v,q,h⟩:=aH.1 (show ob (nK s x) _=some (g,r)from h);have⟨z,k,h⟩:=aH.1 h;cases h;exact⟨rfl,kH (XZ (dQ F q) k) (λw v j=>by simp[execOp,j])⟩
 | call c =>
  have⟨X,Q,B⟩:=c;cases X with
  |value f=>cases R
  |invoke x m=>cases R
  | builtin b =>
   have A:B.size=Q.size:=zA4 aa;have h:VI tb Q B b s H MZ=some (g,r):=h;cases b with
   | len =>
    have⟨x,O,h⟩:=HT (show OB Q.toList (YP tb B.toList) s H MZ=some (g,r)from h);have⟨T,M,h⟩:=aH.1 (show ob (LK B.toList 0) _=some (g,r)from h);have⟨v,q,h⟩:=aH.1 h;have⟨z,k,h⟩:=aH.1 h;cases h;have L:=NV O;subst L;have K:B = #[T]:=by
     rw[Ab]at M;have⟨l⟩:=B
     match l,A with
     | [t],_=>simp at M;subst M;rfl
    subst K;exact⟨rfl,kH (Ya E (ty:=J) (dQ F q) k) (λw v j=>by simp[execOp,resolve,invoke,builtin,j])⟩
   | cap =>
    have⟨x,O,h⟩:=HT (show OB Q.toList (YO tb B.toList) s H MZ=some (g,r)from h);have⟨T,M,h⟩:=aH.1 (show ob (LK B.toList 0) _=some (g,r)from h);have⟨v,q,h⟩:=aH.1 h;have⟨z,k,h⟩:=aH.1 h;cases h;have L:=NV O;subst L;have K:B = #[T]:=by
     rw[Ab]at M;have⟨l⟩:=B
     match l,A with
     | [t],_=>simp at M;subst M;rfl
    subst K;exact⟨rfl,kH (XY E (ty:=J) (dQ F q) k) (λw v j=>by simp[execOp,resolve,invoke,builtin,j])⟩
   | max =>
    have⟨x,y,O,h⟩:=Dd (show IU Q.toList (λx y=>k2 x y Wv) s H MZ=some (g,r)from h);have⟨v,q,h⟩:=aH.1 (show ob (nK s x) _=some (g,r)from h);have⟨u,C,h⟩:=aH.1 h;have⟨z,k,h⟩:=aH.1 h;cases h;have L:=JF O;subst L;obtain⟨G,I,K⟩:∃G I,B = #[G,I]:=by
     have⟨l⟩:=B
     match l,A with
     | [t,t'],_=>exact⟨t,t',rfl⟩
    subst K;exact⟨rfl,kH (Yb (t1:=G) (t2:=I) (ty:=J) (dQ F q) (dQ F C) k) (λw v j=>by simp[execOp,resolve,invoke,builtin,j])⟩
   | min =>
    have⟨x,y,O,h⟩:=Dd (show IU Q.toList (λx y=>k2 x y acb) s H MZ=some (g,r)from h);have⟨v,q,h⟩:=aH.1 (show ob (nK s x) _=some (g,r)from h);have⟨u,C,h⟩:=aH.1 h;have⟨z,k,h⟩:=aH.1 h;cases h;have L:=JF O;subst L;obtain⟨G,I,K⟩:∃G I,B = #[G,I]:=by
     have⟨l⟩:=B
     match l,A with
     | [t,t'],_=>exact⟨t,t',rfl⟩
    subst K;exact⟨rfl,kH (Yc (t1:=G) (t2:=I) (ty:=J) (dQ F q) (dQ F C) k) (λw v j=>by simp[execOp,resolve,invoke,builtin,j])⟩
   |_=>cases R
 |_=>cases R
theorem Uy (hG:iR P tb) {T:TypeId} {n:Nat} {l:List (Nat×GV)} {parts:List (Nat×V0)} {ρ:iP} {H H':GH} {g:GV} (hp:RlP ρ l parts) (h:JG tb T n l H=some (g,H')):
  ∃cs a' T' len sz,H'=H.new (.cells cs)/\g = .sl H.n 0 len sz/\WC ρ cs a'/\cs.length=a'.size/\∀w:World,∃V,(Instr.buildSlice T n parts.toArray).run P w = .ok V (w.alloc (.cells a' T'))/\∀ρ':iP,ρ' H.n=some ⟨w.heap.size,0,a'.size,.cells a' T',.cells cs⟩->Rl ρ' g V:=by
 obtain⟨te,hte,h⟩:=aH.1 (show ob (EA tb T) _=some (g,H')from h);obtain⟨zc,hz,h⟩:=aH.1 h;obtain⟨hlen,h⟩:=bZ.1 h;obtain⟨hbig,h⟩:=bZ.1 h;obtain⟨h0,h⟩:=qM.1 h;obtain⟨cs,hfill,h⟩:=aH.1 h;rw[mR]at h;cases h;obtain⟨⟨d,hd,hde⟩,hE,htab⟩:=Bq hG hte;obtain⟨dz,hdz,_,hC⟩:=zV (ρ:=ρ) hG hz;rw[htab]at hdz;cases hdz;have hlen:zc.length=te.2.size:=zA4 hlen;have h0:te.2.size≠0:=λe=>by rw[e]at h0;cases h0
 have hbig:n*te.2.size<16777216:=by simpa [zAp]using hbig
 have hrep:=Li hC (by omega) n;rw[hlen]at hrep;obtain⟨a',f1,f2⟩:=Jx hp hrep hfill;have hsz0:cs.length=a'.size:=by have:=f2.r.len;simpa using this
 have hsz:a'.size=n*te.2.size:=by
  have e1:=f2.r.len;have:cs.length=(UT zc n).length:=Ku hfill;rw[this,Lh,hlen]at e1;simp at e1;omega
 refine⟨cs,a',te.1,n,te.2.size,rfl,rfl,f2,hsz0,λw=>⟨.slice (some ⟨w.heap.size,0,none⟩) n n,?_,λρ' hρ=>.sl (l:=⟨w.heap.size,0,a'.size,.cells a' te.1,.cells cs⟩) hρ (zAf _) (.inr ⟨rfl,by simp[hsz]⟩)⟩⟩
 have hu:=hd.run_und w;rw[hde]at hu;by_cases hn:n*te.2.size=0
 .have hz0:n=0:=by rcases Nat.mul_eq_zero.1 hn with h|h;exact h;exact absurd h h0
  subst hz0;have e0:(Array.range (0*te.2.size)).map (te.2.zero.cells[· % te.2.zero.cells.size]!)=(#[]:Array V0):=by simp
  rw[e0]at f1;have e1:(Array.range 0).map (λ_=>(default:V0)) = #[]:=by simp
  simp[Instr.buildSlice,hu,hE.run_size w,newRow];simp[e1,f1]
 .simp[Instr.buildSlice,hu,hE.run_size w,hE.run_zero w,hn,f1,newRow,show¬(16777216<n*te.2.size) by omega]
theorem ZO {t u w:iP} (x:∀h A l,t h=some A->u h=some l->w h=some l) {g:GV} {v:V0} (C:Rl u g v):∀{r:V0},Rl t g r->Rl w g v:=by
 induction C with
 |int k n=>exact λ_=>.int k n
 |bool b=>exact λ_=>.bool b
 |str s=>exact λ_=>.str s
 |ptr y q=>exact λj=>by cases j with|ptr _ m=>exact .ptr y (x _ _ _ m q)
 |pnil=>exact λ_=>.pnil
 |sl q E D=>exact λj=>by cases j with|sl m _ _=>exact .sl (x _ _ _ m q) E D
 |snil=>exact λ_=>.snil
 |map q=>exact λj=>by cases j with|map m=>exact .map (x _ _ _ m q)
 | fn f a b c d ihb ihd =>
   intro r j;cases j with
   | fn _ z p B d0 =>
    refine .fn f a (λi g v e o=>?_) c (λi g v e o=>?_)
    .have:=bM e;exact ihb i g v e o (p i g _ e (zA1 V7))
    .have:=bM e;exact ihd i g v e o (d0 i g _ e (zA1 V7))
 |fnil=>exact λ_=>.fnil
 |inil=>exact λ_=>.inil
 | agg a b c ihb =>
   intro r j;cases j with
   |agg z p B=>
    refine .agg a (λi g v e o=>?_) c;have:=bM e;exact ihb i g v e o (p i g _ e (zA1 V7))
 | tup a b ihb =>
   intro r j;cases j with
   |tup z p=>
    refine .tup a (λi g v e o=>?_);have:=bM e;exact ihb i g v e o (p i g _ e (zA1 V7))
 |un=>exact λ_=>.un
 |bad v=>exact λ_=>.bad v
 | opn v h hx =>
   intro r j;have⟨A,a,_⟩:=j.opn_inv;exact .opn v (x _ _ _ a h) hx
structure Trc (tb:TB) (ih:CH) (all l:List Oper) (S:Nat->GF) (HH:Nat->GH) (gg:Nat->GV):Prop where
 st:∀i o,l[i]?=some o->JI tb ih all o (S i) (HH i)=some (gg i,HH (i+1))
 up:∀i o,l[i]?=some o->S (i+1)=putD o.dst (gg i) (S i)
theorem Qv {d:CH} {all:V6 V5} {k:GS->RS} {b:Tc}:∀(l:V6 V5) (s:GS),JS tb d all k l s=some b->∃S c e,S 0=s.σ/\c 0=s.H/\Trc tb d all l S c e/\k ⟨S l.length,c l.length⟩=some b
 | [],s,h=>⟨λ_=>s.σ,λ_=>s.H,λ_=>.un,rfl,rfl,⟨λi o a=>by simp at a,λi o a=>by simp at a⟩,h⟩
 | o :: l, s, h =>by
  have⟨g,t,p,q⟩:=Jv (show Ot tb d all o (JS tb d all k l) s=some b from h);have⟨S,c,e,m,n,j,r⟩:=Qv l _ q;refine⟨λi=>Nat.casesOn i s.σ S,λi=>Nat.casesOn i s.H c,λi=>Nat.casesOn i g e,rfl,rfl,⟨λi f a=>?_,λi f a=>?_⟩,r⟩
  .cases i with
   |zero=>simp at a;subst a;show JI tb d all o s.σ s.H=some (g,c 0);rw[p,n]
   |succ i=>exact j.st i f (by simpa using a)
  .cases i with
   |zero=>simp at a;subst a;exact m
   |succ i=>exact j.up i f (by simpa using a)
theorem FC {o:Op} (h:rU o=true):gI o=false:=by
 cases o<;>first|rfl|cases h
structure Vrs (all l:List Oper) (m:List Nat) (i:Nat) (S:Nat->GF) (HH:Nat->GH) (pr:List (Nat×Option (Nat×Nat))) (hs:List (Nat×GH)):Prop where
 pr:∀q h v,(q,some (h,v))∈pr->∀j oj,l[j]?=some oj->gI oj.op=true->before m (i+j) q=false->(HH (j+1)).ver h=some v
 hs:∀k ok h,l[k]?=some ok->rU ok.op=true->ldH (S k) ok.op=some h->∃v,(HH k).ver h=some v/\∀q Hq,(q,Hq)∈hs->before m (i+k) q=false->Hq.ver h=some v
 lo:∀k ok h v,l[k]?=some ok->rU ok.op=true->ldH (S k) ok.op=some h->(HH k).ver h=some v->
  (∀j oj,j<k->l[j]?=some oj->gI oj.op=true->before m (i+k) (i+j)=false->(HH j).ver h=some v)/\(∀j oj,k<j->l[j]?=some oj->gI oj.op=true->before m (i+j) (i+k)=false->(HH (j+1)).ver h=some v)
theorem Vrs.cons {all l:V6 V5} {m:V6 Nat} {i:Nat} {S:Nat->GF} {B:Nat->GH} {G x:V6 (Nat×V1 (Nat×Nat))} {F u:V6 (Nat×GH)} {o:V5} {L:GF} {H:GH} (V:Vrs all l m (i+1) S B x u)
  (E:∀p∈G,p∈x) (C:∀p∈F,p∈u) (I:gI o.op=true->(i,H)∈u/\∀p∈G,before m i p.1=false->∀d,p.2=some d->(B 0).ver d.1=some d.2)
  (J:rU o.op=true->∀h,ldH L o.op=some h->∃v,H.ver h=some v/\(i,some (h,v))∈x/\∀q y,(q,y)∈F->before m i q=false->y.ver h=some v):
  Vrs all (o::l) m i (λj=>Nat.casesOn j L S) (λj=>Nat.casesOn j H B) G F:=by
 have e:∀j,i+(j+1)=i+1+j:=λj=>by omega
 refine⟨λq h v z j w g s f=>?_,λk A h n s t=>?_,λk A h v n s t d=>⟨λj w D g r f=>?_,λj w D g r f=>?_⟩⟩
 .cases j with
  |zero=>simp at g;subst g;exact(I s).2 _ z (by simpa using f) _ Z
  |succ j=>exact V.pr q h v (E _ z) j w (by simpa using g) s (by rw[<-e];exact f)
 .cases k with
  |zero=>
   simp at n;subst n;have⟨v,a,_,c⟩:=J s h t;exact⟨v,a,λq y z f=>c q y z (by simpa using f)⟩
  |succ k=>
   have⟨v,a,b⟩:=V.hs k A h (by simpa using n) s t;exact⟨v,a,λq y z f=>b q y (C _ z) (by rw[<-e];exact f)⟩
 .cases k with
  |zero=>omega
  | succ k =>
   have n:l[k]?=some A:=by simpa using n
   cases j with
   |zero=>
    simp at g;subst g;have⟨K,a,b⟩:=V.hs k A h n s t;have a:(B k).ver h=some K:=a;have d:(B k).ver h=some v:=d;rw[a]at d;cases d;exact b i H (I r).1 (by rw[<-e];simpa using f)
   |succ j=>exact(V.lo k A h v n s t d).1 j w V7 (by simpa using g) r (by rw[<-e,<-e];exact f)
 .cases j with
  |zero=>omega
  | succ j =>
   have g:l[j]?=some w:=by simpa using g
   cases k with
   |zero=>
    simp at n;subst n;have⟨K,a,b,_⟩:=J s h t;have d:H.ver h=some v:=d;rw[a]at d;cases d;exact V.pr i h v b j w g r (by rw[<-e];simpa using f)
   |succ k=>exact(V.lo k A h v (by simpa using n) s t d).2 j w V7 g r (by rw[<-e,<-e];exact f)
theorem NH {x:CH} {all:V6 V5} {m:V6 Nat} {k:GS->RS} {A:Tc}:∀(l:V6 V5) (i:Nat) (J:V6 (Nat×V1 (Nat×Nat))) (D:V6 (Nat×GH)) (s:GS),evW tb x all m k l i J D s=some A->
  ∃S a r,S 0=s.σ/\a 0=s.H/\Trc tb x all l S a r/\Vrs all l m i S a J D/\k ⟨S l.length,a l.length⟩=some A
 | [],i,J,D,s,h=>⟨λ_=>s.σ,λ_=>s.H,λ_=>.un,rfl,rfl,⟨λi o d=>by simp at d,λi o d=>by simp at d⟩,⟨λ_ _ _ _ j Y V=>by simp at V,λk X h f=>by simp at f,λk X h v f=>by simp at f⟩,h⟩
 | o :: l, i, J, D, s, h =>by
  have t:aaD tb x all m o (evW tb x all m k l) i J D s=some A:=h;have B:∀{g:GV} {C:GH} {S:Nat->GF} {a:Nat->GH} {r:Nat->GV},JI tb x all o s.σ s.H=some (g,C)->S 0=putD o.dst g s.σ->a 0=C->Trc tb x all l S a r->Trc tb x all (o::l) (λj=>Nat.casesOn j s.σ S) (λj=>Nat.casesOn j s.H a) (λj=>Nat.casesOn j g r):=λ{g C S a r} z y n w=>⟨λi O d=>by
    cases i with
    |zero=>simp at d;subst d;show JI tb x all o s.σ s.H=some (g,a 0);rw[z,n]
    |succ i=>exact w.st i O (by simpa using d),λi O d=>by
    cases i with
    |zero=>simp at d;subst d;exact y
    |succ i=>exact w.up i O (by simpa using d)⟩
  unfold aaD at t;cases b:gI o.op with
  |true=>
   rw[b]at t;have⟨g,C,z,E⟩:=Jv t;have⟨_,u,K⟩:=aH.1 E;have u:=IP u;have⟨S,a,r,y,n,w,I,f⟩:=NH l _ _ _ _ K;refine⟨_,_,_,rfl,rfl,B z y n w,I.cons (λ_ h=>h) (λp G=>zAk _ G) (λ_=>⟨zAd,λp G L M U=>by rw[n];exact u p G L M U⟩) (λc=>by rw[FC c]at b;cases b),f⟩
  | false =>
   rw[b]at t;cases c:rU o.op with
   |true=>
    simp only[c]at t;have⟨g,C,z,E⟩:=Jv t;have⟨e,u,K⟩:=aH.1 E;have⟨S,a,r,y,n,w,I,f⟩:=NH l _ _ _ _ K;refine⟨_,_,_,rfl,rfl,B z y n w,I.cons (λp G=>zAk _ G) (λ_ h=>h) (λh=>by rw[b]at h;cases h) (λ_ Q F=>?_),f⟩
    rw[F]at u;have⟨v,N,u⟩:=aH.1 (show ob (s.H.ver Q) (λv=>Oo m i Q v D)=some e from u);obtain⟨rfl,T⟩:=IQ u;exact⟨v,N,zAd,λq R W L=>T (q,R) W L⟩
   |false=>
    simp only[c]at t;have⟨g,C,z,E⟩:=Jv t;have⟨S,a,r,y,n,w,I,f⟩:=NH l _ _ _ _ E;exact⟨_,_,_,rfl,rfl,B z y n w,I.cons (λ_ h=>h) (λ_ h=>h) (λh=>by rw[b]at h;cases h) (λh=>by rw[c]at h;cases h),f⟩
theorem aaC {s:CH} (t:iR P tb) (p:xA P w0 s) {all:V6 V5} {n:Nat} {o:V5} {q:GF} {H k:GH} {g:GV} {d:iP} {a:Act} {w:V2} (r:Ms n o=true) (F:oK d n q a) (R:lP w0 d H w) (h:JI tb s all o q H=some (g,k)):
  ∃b i e,d.le b/\lP w0 b k e/\oK b n (putD o.dst g q) i:=by
 have⟨_,c,_⟩:=zM r;rcases NG t p r F R h with⟨_,x⟩|⟨_,rfl,rfl⟩
 .rcases x with⟨_,_,_,rfl,v,f,_⟩|⟨_,_,rfl,v,_,_,_,_,_,f,_⟩|⟨_,_,rfl,v,f,_⟩|⟨_,u⟩
  .exact⟨d,_,w,iP.le_refl _,R,F.putD c f⟩
  .exact⟨d,_,w,iP.le_refl _,R,F.putD c f⟩
  .exact⟨d,_,w,iP.le_refl _,R,F.putD c f⟩
  .obtain⟨i,e,b,v,j,l,m,rfl⟩:=Ud (u (λi e=>∃b v,d.le b/\lP w0 b k e/\Rl b g v/\i=a.put o.dst v) λb e v j l m=>⟨b,v,j,l,m,rfl⟩);exact⟨b,_,e,j,l,(F.le j).putD c m⟩
 .exact⟨d,_,w,iP.le_refl _,R,F.putD c .un⟩
theorem QI {q:CH} (p:iR P tb) (f:xA P w0 q) {all:V6 V5} {n:Nat} (c:all.all (Ms n)=true) {S:Nat->GF} {g:Nat->GH} {u:Nat->GV} (T:Trc tb q all all S g u) {k:iP} {a:Act} {w:V2} (F:oK k n (S 0) a) (R:lP w0 k (g 0) w):
    ∀m,m<=all.length->∃b:Nat->iP,(∀i,i<=m->∃a w,lP w0 (b i) (g i) w/\oK (b i) n (S i) a)/\∀i,i<m->(b i).le (b (i+1))
  | 0, _ =>⟨λ_ =>k, λi h =>by
      have : i = 0 := by omega
      subst this;exact⟨a,w,R,F⟩,λi h=>V7⟩
  | m + 1, hm =>by
    have⟨b,o,v⟩:=QI p f c T F R m V7;have⟨A,B,s,r⟩:=o m (zAf _);have d:all[m]?=some all[m]:=zA1 V7;have⟨l,t,z,j,x,y⟩:=aaC p f (zA2.1 c _ (List.getElem_mem V7)) r s (T.st m _ d);refine⟨λi=>if i<=m then b i else l,λi h=>?_,λi h=>?_⟩
    · by_cases e:i<=m
      · simp only[e,if_true];exact o i e
      · have:i=m+1:=V7
        subst this;simp only[e,if_false];exact⟨t,z,x,by rw[T.up m _ d];exact y⟩
    · by_cases e:i+1<=m
      · simp only[e,show i<=m by omega,if_true];exact v i V7
      · have:i=m:=V7
        subst this;simp only[e,zAf,if_true,if_false];exact j
theorem Uv {a:Nat->GH} {m:Nat} (b:∀i,i<m->(a i).n<=(a (i+1)).n) {i:Nat}:∀{j:Nat},i<=j->j<=m->(a i).n<=(a j).n
  | 0, h, _ =>by
      have : i = 0 := by omega
      subst this;exact zAf _
  | j + 1, h, hj =>by
    by_cases e:i=j+1
    · subst e;exact zAf _
    · exact zAz (Uv b V7 V7) (b j V7)
theorem Pn {w:CH} {all:V6 V5} {S:Nat->GF} {u:Nat->GH} {n:Nat->GV} (T:Trc tb w all all S u n) {t:Nat} {g:GV}:∀k,k<=all.length->JJ (S k) t=some g->
  (∃i o,i<k/\all[i]?=some o/\o.dst=some t/\n i=g/\∀j a,i<j->j<k->all[j]?=some a->a.dst≠some t)\/((∀j a,j<k->all[j]?=some a->a.dst≠some t)/\JJ (S 0) t=some g)
 |0,_,h=>.inr ⟨λj a s=>V7,h⟩
 | k + 1, hk, h =>by
  have c:all[k]?=some all[k]:=zA1 V7;rw[T.up k _ c]at h;have m:all[k].dst≠some t->JJ (S k) t=some g->_:=λl h=>
   match Pn T k V7 h with
   | .inl ⟨i, o, q, p, h3, h4, h5⟩ =>(.inl ⟨i, o, by omega, p, h3, h4, λj a r s b =>by
     by_cases e:j=k
     .subst e;rw[c]at b;cases b;exact l
     .exact h5 j a r V7 b⟩:(∃i o,i<k+1/\all[i]?=some o/\o.dst=some t/\n i=g/\∀j a,i<j->j<k+1->all[j]?=some a->a.dst≠some t)\/((∀j a,j<k+1->all[j]?=some a->a.dst≠some t)/\JJ (S 0) t=some g))
   | .inr ⟨q, p⟩ =>.inr ⟨λj a s b =>by
     by_cases e:j=k
     .subst e;rw[c]at b;cases b;exact l
     .exact q j a V7 b,p⟩
  cases f:all[k].dst with
  |none=>
   rw[f]at h;exact m (by rw[f];simp) h
  | some d =>
   rw[f]at h;have h:JJ ((d,n k)::S k) t=some g:=h;rw[Fx]at h;by_cases e:t=d
   .subst e;rw[if_pos Z]at h;cases h;exact .inl ⟨k,_,V7,c,f,rfl,λj a q p=>V7⟩
   .rw[if_neg e]at h;exact m (by rw[f];intro v;cases v;exact e Z) h
def vH (o:Op):V4:=gI o && !isFloat o
def OE (tb:TB) (x o:Op):V4:=pureOp tb x||pureOp tb o||isFloat o||(!gI x && !gI o)||(rU x&&gI o)||(gI x&&rU o)
def chkF (tb:TB) (l:V6 V5) (m:V6 Nat):V4:=
 (List.range l.length).all λi=>match l[i]? with
  |none=>false
  |some o=>
   (zY o).all (λe=>Nat.blt e i&&before m i e&&(List.range i).all (λk=> !before m e k||before m i k)) &&
   (List.range l.length).all (λk=> !before m i k||(Nat.blt k i&&(zY o).any (λe=>Nat.beq e k||before m e k))) &&
   !Hl o.op &&
   (List.range i).all (λx=>before m i x||(match l[x]? with|none=>false|some a=>a.apart l.toArray o&&OE tb a.op o.op))
structure Zr (tb:TB) (l:List Oper) (m:List Nat):Prop where
 edge:∀(i:Nat) (o:Oper),l[i]?=some o->∀e∈zY o,e<i/\before m i e=true
 trans:∀(i:Nat) (o:Oper),l[i]?=some o->∀k,before m i k=true->k<l.length->k<i/\∃e∈zY o,e=k\/before m e k=true
 ind:∀(i x:Nat) (oi ox:Oper),l[i]?=some oi->l[x]?=some ox->x<i->before m i x=false->ox.apart l.toArray oi=true/\OE tb ox.op oi.op=true
theorem Mc {l:V6 V5} {m:V6 Nat} (h:chkF tb l m=true):Zr tb l m:=by
 have b:∀(i:Nat) (o:V5),l[i]?=some o->
   ((zY o).all (λe=>Nat.blt e i&&before m i e&&(List.range i).all (λk=> !before m e k||before m i k))=true)/\
   ((List.range l.length).all (λk=> !before m i k||(Nat.blt k i&&(zY o).any (λe=>Nat.beq e k||before m e k)))=true)/\Hl o.op=false/\
   ((List.range i).all (λx=>before m i x||(match l[x]? with|none=>false|some g=>g.apart l.toArray o&&OE tb g.op o.op))=true):=by
  intro i o c;have:=zA2.1 h i (zAg.2 (bM c));simp only[c,zA5,zB4]at this;exact⟨this.1.1.1,this.1.1.2,this.1.2,this.2⟩
 refine⟨?_,?_,?_⟩
 .intro i o c e f;have:=zA2.1 (b i o c).1 e f;simp only[zA5,zAp]at this;exact⟨this.1.1,this.1.2⟩
 .intro i o c k q a;have:=zA2.1 (b i o c).2.1 k (zAg.2 a);simp only[q,Bool.not_true,Bool.false_or,zA5,zAp,List.any_eq_true,Bool.or_eq_true]at this;have⟨j,e,f,d⟩:=this;refine⟨j,e,f,?_⟩
  rcases d with d|d
  .exact .inl (zA4 d)
  .exact .inr d
 .intro i x s g p r a n;have:=(b i s p).2.2.2;have:=zA2.1 this x (zAg.2 a);simp only[n,Bool.false_or,r,zA5]at this;exact this
theorem Zc (G:iR P tb) {T:V9} {ρ:iP} {H x:GH} {g v u:GV} {V U:V0} (J:Rl ρ v V) (I:Rl ρ u U) (h:UA tb T v u H=some (g,x)):
  ∃t m F,x=H.new (.cells t)/\WC ρ t m/\t.length=m.size/\∀w:V2,∃X,(Instr.makeSlice T V U).run P w = .ok X (w.alloc (.cells m F))/\∀l:iP,l H.n=some ⟨w.heap.size,0,m.size,.cells m F,.cells t⟩->Rl l g X:=by
 have⟨j,C,h⟩:=aH.1 (show ob (EA tb T) _=some (g,x)from h);have⟨zc,Y,h⟩:=aH.1 h;have⟨k,R,h⟩:=aH.1 h;have⟨c,O,h⟩:=aH.1 h;have⟨f,h⟩:=bZ.1 h;have⟨n,S,h⟩:=aH.1 h;have⟨a,h⟩:=bZ.1 h;have⟨o,h⟩:=bZ.1 h;have⟨q,h⟩:=bZ.1 h;have⟨y,h⟩:=qM.1 h;rw[aaE,mR]at h;cases h;have⟨⟨d,Q,A⟩,M,s⟩:=Bq G C;have⟨dz,p,_,L⟩:=zV (ρ:=ρ) G Y;rw[s]at p;cases p;have a:zc.length=j.2.size:=zA4 a;have y:j.2.size≠0:=λe=>by rw[e]at y;cases y
 have o:n*j.2.bytes<16777216:=by simpa [zAp]using o
 have q:n<16777216:=by simpa [zAp]using q
 rw[qE R]at J;rw[qE O]at I;rw[Mh]at f;have f:=of_decide_eq_true f;rw[J.int_inv,I.int_inv,<-f,Ko S];have b:=Li L V7 n;rw[a]at b;have⟨K,B,W,N,D⟩:=M.info;have i:=Q.und;rw[A]at i;have z:(K.bytes:Int)*(n:Int)<=281474976710656:=by
  have e:(j.2.bytes:Int)*(n:Int)=((n*j.2.bytes:Nat):Int):=by rw[Nat.mul_comm];simp
  rw[N,e];omega
 refine⟨_,_,j.1,rfl,b,by have:=b.r.len;simpa using this,λw=>⟨_,?_,λl E=>.sl E (zAf n) (.inr ⟨rfl,?_⟩)⟩⟩
 .rw[run_make (P:=P) w T j.1 K j.2.zero i B D k.1 c.1 n n V7 (Int.le_refl _) z V7];simp[madeCells,W]
 .simp
theorem Qx {ih:CH} (K:iR P tb) {all:V6 V5} {n:Nat} {o:V5} {B:GF} {H c:GH} {g:GV} {D:iP} {a:Act} (W:isFloat o.op=true) (F:oK D n B a) (h:JI tb ih all o B H=some (g,c)):
  (Region.wanted o (yielded all.toArray a.tmps)=false/\g = .un/\c=H)\/
  (Region.wanted o (yielded all.toArray a.tmps)=true/\∃j f A,c=H.new (.cells j)/\WC D j f/\j.length=f.size/\∀w:V2,∃V,(execOp a.eval o).run P w = .ok (.value V) (w.alloc (.cells f A))/\∀i:iP,i H.n=some ⟨w.heap.size,0,f.size,.cells f A,.cells j⟩->Rl i g V):=by
 rcases Ju F h with⟨Y,b⟩|h
 .refine .inr ⟨Y,?_⟩;have⟨d,op,ty,ab,R,gd⟩:=o;cases op with
  |buildSlice T m M=>
   have⟨vs,L,b⟩:=aH.1 (show ob (Aa B M.toList) _=some (g,c)from b);have⟨E,k,b,q⟩:=pY b;cases q;have⟨j,f,A,aa,sz,C,h2,G,I,J⟩:=Uy (P:=P) K (Hk F L) b;refine⟨j,f,A,C,G,I,λw=>?_⟩
   have⟨V,s,t⟩:=J w;refine⟨V,?_,t⟩
   have e:(M.toList.map λp=>(p.1,a.eval p.2)).toArray=M.map λp=>(p.1,a.eval p.2):=by apply Array.toList_inj.1;simp
   rw[e]at s;simp[execOp,s]
  |alloc T=>
   have⟨E,k,b,q⟩:=pY (show Ae (Jm tb T H) MZ=some (g,c)from b);cases q;have⟨Q,hz,b⟩:=aH.1 (show ob (Ha tb T) _=some (g,c)from b);rw[mR]at b;cases b;have⟨d,hd,S,N⟩:=zV (ρ:=D) K hz;refine⟨Q,d.zero.cells,T,rfl,N,by have:=N.r.len;simpa using this,λw=>⟨_,?_,λi z=>.ptr (l:=⟨w.heap.size,0,d.zero.cells.size,.cells d.zero.cells T,.cells Q⟩) 0 z⟩⟩
   simp[execOp,Mt w S]
  |makeSlice T x y=>
   have⟨v,t,b⟩:=aH.1 (show ob (nK B x) (λv=>ob (nK B y) λu=>Ae (UA tb T v u H) MZ)=some (g,c)from b);have⟨u,X,b⟩:=aH.1 b;have⟨E,k,b,q⟩:=pY b;cases q;have⟨j,f,A,C,G,I,J⟩:=Zc (P:=P) K (dQ F t) (dQ F X) b;refine⟨j,f,A,C,G,I,λw=>?_⟩
   have⟨V,s,t⟩:=J w;refine⟨V,?_,t⟩
   simp[execOp,s]
  |box T x=>
   have⟨v,t,b⟩:=aH.1 (show ob (nK B x) (λv=>Ae (Wq v H) MZ)=some (g,c)from b);have⟨E,k,b,q⟩:=pY b;cases q;have⟨O,U,b⟩:=aH.1 (show ob v.cells _=some (g,c)from b);rw[mR]at b;cases b;have⟨vs,e,s,C⟩:=(dQ F t).cells U;refine⟨O,(a.eval x).cells,T,rfl,by rw[e];exact⟨s,C⟩,by rw[e];have:=s.len;simpa using this,λw=>⟨_,?_,λi z=>.ptr (l:=⟨w.heap.size,0,(a.eval x).cells.size,.cells (a.eval x).cells T,.cells O⟩) 0 z⟩⟩
   simp[execOp,Instr.box,newVar,newRow]
  |_=>cases W
 .exact .inl h
end
end Go.Gx