/- Models and proofs. Conditions: none. -/
import Derived.Test.YtjkjpdonlpdcaaaGreatDoorZTFaArCo1
import Derived.Maps.RangeRun
set_option linter.unusedVariables false
set_option linter.unusedSimpArgs false
set_option maxHeartbeats 4000000
set_option maxRecDepth 20000
namespace Go.Sx
theorem LA {X R:Type} {b:X->(X->Option R)->Option R} {r:R} (I:X->Prop) (e:X->Nat)
  (h:∀x f,I x->(∀c,I c->e c<e x->f c=some r)->b x f=some r):∀(a:Nat) (x:X),I x->e x<a->bP b a x=some r:=by
 intro a
 induction a with
 |zero=>intro x _ j;omega
 |succ k l=>
  intro x g j;exact h x _ g λc d i=>l c d (by omega)
def OK {R:Type} (Q:R->Prop) (o:Option R):Prop:=∃r,o=some r∧Q r
theorem vM {X R:Type} {step:X->(X->Option R)->Option R} {Q:R->Prop} (I:X->Prop) (d:X->Nat)
  (h:∀x e,I x->(∀b,I b->d b<d x->OK Q (e b))->OK Q (step x e)):∀(a:Nat) (x:X),I x->d x<a->OK Q (bP step a x):=by
 intro a
 induction a with
 |zero=>intro x _ i;omega
 |succ k j=>
  intro x f i;exact h x _ f λb c g=>j b c (by omega)
theorem cS {b:Type} {p:Prop} [Decidable p] (a:p) (x:Option b):ck p x=x:=if_pos a
theorem wr {x:Int} (a : -9223372036854775808<=x) (b:x<=9223372036854775807):wI .i64 x=x:=if_pos ⟨a,b⟩
theorem bF {a b:Type} {x:Option a} {y:a} {f:a->Option b} (h:x=some y):x.bind f=f y:=by rw[h];rfl
theorem agB {a:Type} (l r:List a) (x y:a) (i:Nat) (h:l.length=i):(l++x::r).set i y=l++y::r:=by
 rw[List.set_append_right _ _ (by omega)];simp[<-h]
theorem Sj {a:Type} [Inhabited a] (l r:List a) (x:a) (i:Nat) (h:l.length=i):at' (l++x::r) (i:Int)=x:=by
 rw[jM,List.getD_eq_getElem?_getD,List.getElem?_append_right (by omega)];simp[<-h]
theorem eF {X R:Type} {step:X->(X->Option R)->Option R} {K:Option R} (N:Nat) (F:Nat->X) (c:∀(k:Nat) g,k<N->step (F k) g=g (F (k+1))) (e:∀g,step (F N) g=K):∀b,N<b->bP step b (F 0)=K:=by
 have i:∀(d a b:Nat),a+d=N->d<b->bP step b (F a)=K:=by
  intro d
  induction d with
  |zero=>
   intro a b j h;obtain rfl:a=N:=by omega
   obtain⟨f,rfl⟩:∃f,b=f+1:=⟨b - 1,by omega⟩
   exact e _
  |succ d l=>
   intro a b j h;obtain⟨f,rfl⟩:∃f,b=f+1:=⟨b - 1,by omega⟩
   show step (F a) (bP step f)=K;rw[c a _ (by omega)];exact l (a+1) f (by omega) (by omega)
 exact λb h=>i N 0 b (by omega) h
theorem Px {X R:Type} {step:X->(X->Option R)->Option R} {K bad:Option R} (N:Nat) (p:Nat->Prop) (F:Nat->X) (r:∀(k:Nat) c,k<N->p k->step (F k) c=c (F (k+1))) (i:∀(k:Nat) c,k<N->¬p k->step (F k) c=bad) (j:∀c,step (F N) c=K):
  ∀b,N<b->((∀k,k<N->p k)->bP step b (F 0)=K)∧(¬(∀k,k<N->p k)->bP step b (F 0)=bad):=by
 have s:∀(d a b:Nat),a+d=N->d<b->((∀k,a<=k->k<N->p k)->bP step b (F a)=K)∧(¬(∀k,a<=k->k<N->p k)->bP step b (F a)=bad):=by
  intro d
  induction d with
  |zero=>
   intro a b t q;obtain rfl:a=N:=by omega
   obtain⟨f,rfl⟩:∃f,b=f+1:=⟨b - 1,by omega⟩
   exact⟨λ_=>j _,λh=>absurd (λk m g=>by omega) h⟩
  | succ d ih =>
   intro a b t q;obtain⟨f,rfl⟩:∃f,b=f+1:=⟨b - 1,by omega⟩
   obtain⟨u,v⟩:=ih (a+1) f (by omega) (by omega);have e:bP step (f+1) (F a)=step (F a) (bP step f):=rfl;rw[e];by_cases n:p a
   ·rw[r a _ (by omega) n];refine⟨λh=>u λk m g=>h k (by omega) g,λh=>v λo=>h λk m g=> ?_⟩
    by_cases l:k=a
    ·subst l;exact n
    ·exact o k (by omega) g
   ·exact⟨λh=>absurd (h a (Nat.le_refl _) (by omega)) n,λ_=>i a _ (by omega) n⟩
 intro b q;obtain⟨m,g⟩:=s N 0 b (by omega) q;exact⟨λh=>m λk _ l=>h k l,λh=>g λo=>h λk l=>o k (by omega) l⟩
theorem vL {X R:Type} {step:X->(X->Option R)->Option R} {K:X->Option R} (N:Nat) (I:Nat->X->Prop) (e:∀(k:Nat) x i,k<N->I k x->∃c,I (k+1) c∧step x i=i c) (h:∀x i,I N x->step x i=K x):∀b x,I 0 x->N<b->∃c,I N c∧bP step b x=K c:=by
 have m:∀(d a b:Nat) (x:X),a+d=N->d<b->I a x->∃c,I N c∧bP step b x=K c:=by
  intro d
  induction d with
  |zero=>
   intro a b x p l g;obtain rfl:a=N:=by omega
   obtain⟨f,rfl⟩:∃f,b=f+1:=⟨b - 1,by omega⟩
   exact⟨x,g,h _ _ g⟩
  |succ d r=>
   intro a b x p l g;obtain⟨f,rfl⟩:∃f,b=f+1:=⟨b - 1,by omega⟩
   obtain⟨c,j,q⟩:=e a x (bP step f) (by omega) g;obtain⟨s,n,o⟩:=r (a+1) f c (by omega) (by omega) j;exact⟨s,n,by rw[<-o];exact q⟩
 exact λb x g l=>m N 0 b x (by omega) l g
def AI (q:Nat->Bool):Nat->Bool
 |0=>false
 |k+1=>AI q k||q k
theorem MW {q:Nat->Bool}:∀{k:Nat},AI q k=true↔∃i,i<k∧q i=true
 |0=>by simp[AI]
 | k + 1 => by
  simp only[AI,Bool.or_eq_true,MW (k:=k)];constructor
  ·rintro(⟨i,b,a⟩|h)
   ·exact⟨i,by omega,a⟩
   ·exact⟨k,by omega,h⟩
  ·rintro⟨i,b,a⟩;by_cases e:i=k
   ·subst e;exact .inr a
   ·exact .inl ⟨i,by omega,a⟩
def kP (p:Nat->Bool):Nat->Nat
 |0=>0
 |k+1=>if p k then kP p k ||| 2^k else kP p k
theorem Np (p:Nat->Bool):∀k,kP p k<2^k
 |0=>by simp[kP]
 |k+1=>by
  have h:=Np p k;simp only[kP];split
  ·exact Nat.or_lt_two_pow (by omega) (Nat.pow_lt_pow_right (by omega) (by omega))
  ·omega
theorem xB (p:Nat->Bool) (j:Nat):∀k,(kP p k).testBit j=(decide (j<k)&&p j)
 |0=>by simp[kP]
 | k + 1 => by
  have h:=xB p j k;simp only[kP];by_cases e:j=k
  ·subst e;cases c:p j<;>simp[h,c]
  ·have a:decide (j<k+1)=decide (j<k):=decide_eq_decide.2 (by omega);have b:¬k=j:=λh=>e h.symm;split
   ·rw[Nat.testBit_or,h,Nat.testBit_two_pow,a];simp[b]
   ·rw[h,a]
end Go.Sx
section
set_option linter.unusedSectionVars false
namespace Go.Sx
open Go.RowKit
section defs
variable {κ ν:Type} [DecidableEq κ]
def CU (a:κ->Value) (b:ν->Value):Nat->List (κ×ν)->List MapEntry
 |_,[]=>[]
 |i,x::xs=>⟨a x.1,b x.2,i⟩::CU a b (i+1) xs
def mT (k:κ):List (κ×ν)->Option ν
 | []=>none
 |x::xs=>if k=x.1 then some x.2 else mT k xs
def BU (k:κ) (v:ν):List (κ×ν)->List (κ×ν)
 | []=>[(k,v)]
 |x::xs=>if k=x.1 then(k,v)::xs else x::BU k v xs
def SH (a:ν->Value) (k:κ):Nat->List (κ×ν)->Option (Nat×Value)
 |_,[]=>none
 |i,x::xs=>if k=x.1 then some (i,a x.2)else SH a k (i+1) xs
theorem Lv (a:ν->Value) (k:κ):∀(i:Nat) (l:List (κ×ν)),(SH a k i l).map (·.2)=(mT k l).map a
 |_,[]=>rfl
 |i,x::xs=>by
  simp only[SH,mT];split
  ·rfl
  ·exact Lv a k (i+1) xs
theorem Jb (a:κ->Value) (b:ν->Value):∀(i:Nat) (l:List (κ×ν)) (x:κ×ν),CU a b i (l++[x])=CU a b i l++[⟨a x.1,b x.2,i+l.length⟩]
 |i,[],x=>rfl
 |i,y::ys,x=>by
  simp only[List.cons_append,CU,Jb a b (i+1) ys x,List.length_cons];rw[show i+1+ys.length=i+(ys.length+1) by omega]
theorem GG (k:κ) (v:ν):∀l:List (κ×ν),mT k l=none->BU k v l=l++[(k,v)]
 | [],_=>rfl
 | x :: xs, h => by
  simp only[mT]at h;split at h
  ·cases h
  ·rename_i a;simp only[BU,if_neg a,GG k v xs h,List.cons_append]
theorem QJ (a:κ->Value) (b:ν->Value) (k:κ) (v:ν):∀(i0 i:Nat) (l:List (κ×ν)) (j:Nat) (u:Value),SH b k i l=some (j,u)->
  i<=j∧((CU a b i l)[j - i]?).map (·.key)=some (a k)∧CU a b i (BU k v l)=(CU a b i l).modify (j - i) (λe=>{e with key:=a k,val:=b v})∧(BU k v l).length=l.length
 |_,i,[],j,u,h=>by simp[SH]at h
 | i0, i, x :: xs, j, u, h => by
  simp only[SH]at h;split at h
  ·rename_i n;simp only[Option.some.injEq,Prod.mk.injEq]at h;obtain⟨rfl,_⟩:=h;simp[CU,BU,n]
  ·rename_i c;obtain⟨o,f,g,m⟩:=QJ a b k v i0 (i+1) xs j u h;have d:j - i=(j - (i+1))+1:=by omega
   refine⟨by omega,?_,?_,?_⟩
   ·rw[d];simpa [CU]using f
   ·simp only[BU,if_neg c,CU];rw[d,List.modify_succ_cons,g]
   ·simp[BU,c,m]
end defs
structure Ij (P:Program) (kt:TypeId) {κ:Type} [DecidableEq κ] (ek:κ->Value):Prop where
 chk:∀b k w,(Instr.checkKey b 10000 kt (ek k)).run P w = .ok () w
 find:∀{ν:Type} (ev:ν->Value) (k:κ) (l:List (κ×ν)) w,(Instr.findKey kt (ek k) (CU ek ev 0 l)).run P w = .ok (SH ev k 0 l) w
 same:∀k,Instr.sameBits 10000 (ek k) (ek k)=true
def Mp {b c:Type} (d:b->Value) (e:c->Value) (r:Nat) (l:List (b×c)):aY where
 p w F:=F r∧w.heap[r]? = some (.map (CU d e 0 l).toArray l.length)
 mono:=fun⟨f,a⟩ h=>by
  obtain⟨g,i⟩:=h r f (Array.getElem?_eq_some_iff.1 a).1;exact⟨g,by rw[i];exact a⟩
section
variable {P:Program} {rd:Option Nat} {c:uM} {n:Sz} {σ:Fr} {M L:List aY} {Q:Exit->Act->World->Prop} {ops:Array Oper} {rest:List Oper}
variable {d:Option Tmp} {ty:TypeId} {pos:String} {aft:Array Edge} {g:Option (Nat×Bool)}
theorem St.push {w:World} (t:St c M L w) (o:Obj) {m:aY} (z:m.p (w.alloc o) (λk=>k=w.heap.size)):St c (m::M) L (w.alloc o):=by
 have e:KW w (w.alloc o):=(Below.refl _ _).alloc (Nat.le_refl _) _;obtain⟨v,F,b,x⟩:=t;have u:∀k,k<w.heap.size->(w.alloc o).heap[k]? = w.heap[k]? := e.block;refine⟨v.trans e,λi k=>match i with|0=>k=w.heap.size|i+1=>F i k,⟨?_,?_,?_⟩,λf y=> ?_⟩
 ·intro i A a;cases i with
  |zero=>simp at a;subst a;exact z
  |succ i=>exact aY.same (b.res i A (by simpa using a)) (λ_ h=>h) (λk _ s=>u k s)
 ·intro i k q;cases i with
  |zero=>subst q;exact⟨.inl v.size,by simp⟩
  |succ i=>exact⟨(b.rng i k q).1,Nat.lt_of_lt_of_le (b.rng i k q).2 e.size⟩
 ·intro i j k l r;cases i with
  |zero=>
   cases j with
   |zero=>rfl
   |succ j=>have:=(b.rng j k r).2;simp only at l;omega
  |succ i=>
   cases j with
   |zero=>have:=(b.rng i k l).2;simp only at r;omega
   |succ j=>exact congrArg (· + 1) (b.dis i j k l r)
 ·exact f.mono (x f y) λk q s=>⟨⟨q.1,λi l=>by
   cases i with
   |zero=>simp only at l;omega
   |succ i=>exact q.2 i l⟩,u k s⟩
variable {κ ν:Type} [DecidableEq κ] {ek:κ->Value} {ev:ν->Value}
theorem aL.makeMap (ek:κ->Value) (ev:ν->Value) {T:TypeId}:aL P c n σ M L ⟨d,.makeMap T none,ty,pos,aft,g⟩ (λr:Nat=> .map (some r)) (λr=>Mp ek ev r []::M) (λ_=>L):=λa w s t=>by
 have b:(execOp a.eval ⟨d,.makeMap T none,ty,pos,aft,g⟩).run P w = .ok (.value (.map (some w.heap.size))) (w.alloc (.map #[] 0)):=by
  simp[execOp,Instr.makeMap]
 simp only[Oper.wp,b,Oper.upon];exact⟨w.heap.size,rfl,t.push _ ⟨rfl,heap_alloc_new w _⟩⟩
theorem PN [cL P] {T j m:TypeId} {C D E G:Nat} {z f:Value} {o:TypeDesc} {w:World} {r:Nat} {l:List (κ×ν)} {F:Nat->Prop} (i:Ij P j ek) (q:(Mp ek ev r l).p w F)
  (s:cL.tab P T=some ⟨.map j m,C,D,z⟩) (t:cL.tab P m=some ⟨o,E,G,f⟩) (k:κ) (b:Bool):
  (Instr.lookup T (.map (some r)) (ek k) b).run P w = .ok (if b then .tuple #[((mT k l).map ev).getD f,.bool (mT k l).isSome]else((mT k l).map ev).getD f) w:=by
 have y:(getObj r).run P w = .ok (.map (CU ek ev 0 l).toArray l.length) w:=by
  simp[getObj,Sem.run,q.2]
 have u:=i.find ev k l w;have a:=Lv ev k 0 l;simp only[Instr.lookup];simp[(cL.ok s).run_und w,y,i.chk,u];cases e:SH ev k 0 l with
 |none=>
  rw[e]at a;have:mT k l=none:=by cases h:mT k l<;>simp[h]at a ⊢
  simp[this,(cL.ok t).run_zero w]
 | some x =>
  rw[e]at a;obtain⟨v,A,B⟩:∃v,mT k l=some v∧ev v=x.2:=by
   cases h:mT k l with
   |none=>simp[h]at a
   |some v=>simp[h]at a;exact⟨v,rfl,a.symm⟩
  simp[A,B]
theorem MU [cL P] (j:Nat) {T e f:TypeId} {D E G H:Nat} {z h:Value} {i:TypeDesc} {x y:Operand} {r:Nat} {l:List (κ×ν)} (k:κ) {b:Bool} (v:Ij P e ek) (B:Go.Sx.ev σ x=some (.map (some r))) (C:Go.Sx.ev σ y=some (ek k)) (q:M[j]? = some (Mp ek ev r l))
  (o:cL.tab P T=some ⟨.map e f,D,E,z⟩) (p:cL.tab P f=some ⟨i,G,H,h⟩) {u:Value} (A:((mT k l).map ev).getD h=u):
  Y P c n σ M L ⟨d,.lookup T x y b,ty,pos,aft,g⟩ (if b then .tuple #[u,.bool (mT k l).isSome]else u):=λa w s t=>by
 obtain⟨F,m⟩:=t.res q;subst A;simp[execOp,s.eval B,s.eval C,PN v m o p]
theorem CX {w:World} {r:Nat} {a:Array MapEntry} {k:Nat} (h:w.heap[r]? = some (.map a k)) (o:Obj):(setObj r o).run P w = .ok () {w with heap:=w.heap.setIfInBounds r o}:=by
 simp[setObj,Sem.run,h]
theorem St.setMap {w:World} (t:St c M L w) {j r:Nat} {l b:List (κ×ν)} (f:M[j]? = some (Mp ek ev r l)) (o:Obj) (m:o = .map (CU ek ev 0 b).toArray b.length):
  St c (M.set j (Mp ek ev r b)) L {w with heap:=w.heap.setIfInBounds r o}:=
 t.upd f Z Z Z (by simp) λF a _=>⟨λk _ i=>by
   rw[Array.getElem?_setIfInBounds_ne (λe=>i (by subst e;exact a.1))],F,⟨a.1,by
    rw[Array.getElem?_setIfInBounds_self_of_lt (Array.getElem?_eq_some_iff.1 a.2).1,m]⟩,λ_ h=> .inl h⟩
theorem Mt [cL P] (j:Nat) {T R vt:TypeId} {s1 s2:Nat} {z:Value} {x y v:Operand} {r:Nat} {l:List (κ×ν)} (k:κ) (f:ν) (C:Ij P R ek) (Y:Go.Sx.ev σ x=some (.map (some r))) (hy:Go.Sx.ev σ y=some (ek k)) (X:Go.Sx.ev σ v=some (ev f)) (K:M[j]? = some (Mp ek ev r l))
  (I:cL.tab P T=some ⟨.map R vt,s1,s2,z⟩) (h:J c n σ (M.set j (Mp ek ev r (BU k f l))) L (wpList P ops Q rest)):
  J c n σ M L (wpList P ops Q (⟨none,.mapUpdate T x y v,ty,pos,aft,none⟩::rest)):=λa w s t=>by
 refine mN Z ?_;obtain⟨F,E⟩:=t.res K;have N:(getObj r).run P w = .ok (.map (CU ek ev 0 l).toArray l.length) w:=by
  simp[getObj,Sem.run,E.2]
 have b:=C.find ev k l w;have A:=Lv ev k 0 l;have B:∃o:Obj,(execOp a.eval ⟨none,.mapUpdate T x y v,ty,pos,aft,none⟩).run P w = .ok .skip {w with heap:=w.heap.setIfInBounds r o}∧o = .map (CU ek ev 0 (BU k f l)).toArray (BU k f l).length:=by
  simp only[execOp,s.eval Y,s.eval hy,s.eval X,Instr.mapUpdate];cases m:SH ev k 0 l with
  |none=>
   rw[m]at A b;have U:mT k l=none:=by cases h:mT k l<;>simp[h]at A ⊢
   refine⟨.map (CU ek ev 0 l++[(⟨ek k,ev f,l.length⟩:MapEntry)]).toArray (l.length+1),by simp[(cL.ok I).run_und w,N,C.chk,b,CX E.2],?_⟩
   rw[GG k f l U,Jb];simp
  | some q =>
   obtain⟨i,u⟩:=q;rw[m]at b;obtain⟨_,D,H,S⟩:=QJ ek ev k f 0 0 l i u m;rw[Nat.sub_zero]at D H;have O:(((CU ek ev 0 l).toArray[i]?).map (·.key)).getD (ek k)=ek k:=by
    rw[List.getElem?_toArray,D];rfl
   refine⟨.map ((CU ek ev 0 l).toArray.modify i λe=>{e with key:=ek k,val:=ev f}) l.length,?_,?_⟩
   ·have G:(Instr.keyThatStays (ek k) (ek k)).run P w = .ok (ek k) w:=by simp[Instr.keyThatStays,C.same k]
    have p:(Option.map (λx=>x.key) (CU ek ev 0 l)[i]?).getD (ek k)=ek k:=by rw[D];rfl
    simp[(cL.ok I).run_und w,N,C.chk,b,p,G,CX E.2]
   ·rw[H,S];simp
 obtain⟨o,W,V⟩:=B;simp only[Oper.wp,W,Oper.upon];exact h _ _ s (t.setMap K o V)
end
end Go.Sx
end
section
set_option linter.unusedSectionVars false
namespace Go.Sx
open Go.RowKit Go.ChangeMaps
def It (b m a:Nat) (c:List Nat):aY where
 p w F:=F b∧w.heap[b]? = some (.mapIter (some m) a c.toArray a)
 mono:=fun⟨e,d⟩ h=>by
  obtain⟨f,g⟩:=h b e (Array.getElem?_eq_some_iff.1 d).1;exact⟨f,by rw[g];exact d⟩
section
variable {κ ν:Type} [DecidableEq κ] {ek:κ->Value} {ev:ν->Value} {R:Type}
theorem LJ (ek:κ->Value) (ev:ν->Value):∀(k:Nat) (l:List (κ×ν)) (e:MapEntry),e∈CU ek ev k l->∃i a,l[i]? = some a∧e=⟨ek a.1,ev a.2,k+i⟩
 |_,[],e,h=>by simp[CU]at h
 | k, x :: xs, e, h => by
  rcases List.mem_cons.1 h with rfl|h
  ·exact⟨0,x,rfl,rfl⟩
  ·obtain⟨i,a,b,c⟩:=LJ ek ev (k+1) xs e h;exact⟨i+1,a,b,by rw[c,show k+1+i=k+(i+1) by omega]⟩
theorem LF (ek:κ->Value) (ev:ν->Value):∀(k:Nat) (l:List (κ×ν)) (i:Nat) (a:κ×ν),l[i]? = some a->(⟨ek a.1,ev a.2,k+i⟩:MapEntry)∈CU ek ev k l
 |_,[],i,a,h=>by simp at h
 |k,x::xs,0,a,h=>by simp at h;subst h;exact List.mem_cons_self
 |k,x::xs,i+1,a,h=>by
  have:=LF ek ev (k+1) xs i a (by simpa using h);rw[show k+1+i=k+(i+1) by omega]at this;exact List.mem_cons_of_mem _ this
theorem Nu (ek:κ->Value) (ev:ν->Value):∀(k:Nat) (l:List (κ×ν)),(CU ek ev k l).map (·.born)=List.range' k l.length
 |_,[]=>rfl
 |k,x::xs=>by simp[CU,Nu ek ev (k+1) xs,List.range'_succ]
def JM (a:κ×ν->Option R->Option R) (K:Option R) (l:List (κ×ν)):Option R:=l.foldr a K
def rem (l:List (κ×ν)) (a:List Nat):List (κ×ν):=((List.range l.length).filter (λi=> !a.contains i)).filterMap (λi=>l[i]?)
theorem KD:∀l:List (κ×ν),(List.range l.length).filterMap (λi=>l[i]?)=l
 | []=>rfl
 |x::xs=>by
  rw[List.length_cons,List.range_succ_eq_map,List.filterMap_cons];simp only[List.getElem?_cons_zero,List.filterMap_map];congr 1;have:=KD xs;simpa [Function.comp_def]using this
theorem YF (l:List (κ×ν)):rem l []=l:=by
 unfold rem;rw[List.filter_eq_self.2 (by simp),KD]
theorem VK {l:List (κ×ν)} {a:List Nat} {i:Nat} {m:κ×ν} (k:l[i]? = some m) (t:i∉a):∃n o,rem l a=n++m::o∧rem l (a++[i])=n++o:=by
 have g:=bB k;have d:i∈(List.range l.length).filter (λi=> !a.contains i):=by simp[g,t]
 obtain⟨A,B,b⟩:=List.append_of_mem d;have c:((List.range l.length).filter (λi=> !a.contains i)).Nodup:=List.Pairwise.filter _ List.nodup_range;rw[b]at c;have r:i∉A:=λh=>by
  have:=(List.nodup_append.1 c).2.2 i h i List.mem_cons_self;exact this Z
 have s:i∉B:=λh=>by
  have:=(List.nodup_cons.1 (List.nodup_append.1 c).2.1).1;exact this h
 refine⟨A.filterMap (λi=>l[i]?),B.filterMap (λi=>l[i]?),?_,?_⟩
 ·unfold rem;rw[b,List.filterMap_append,List.filterMap_cons,k]
 ·unfold rem;have e:(List.range l.length).filter (λj=> !(a++[i]).contains j)=((List.range l.length).filter (λj=> !a.contains j)).filter (λj=>decide (j≠i)):=by
   rw[List.filter_filter];apply List.filter_congr;intro j _;rw[Bool.eq_iff_iff];simp[and_comm]
  rw[e,b,List.filter_append,List.filter_cons];have p:A.filter (λj=>decide (j≠i))=A:=List.filter_eq_self.2 (λj f=>by simp;rintro rfl;exact r f);have q:B.filter (λj=>decide (j≠i))=B:=List.filter_eq_self.2 (λj f=>by simp;rintro rfl;exact s f);rw[p,q,List.filterMap_append.symm];simp
theorem KC {c:κ×ν->Option R->Option R} (f:∀a b x,c a (c b x)=c b (c a x)) (K:Option R) (d:κ×ν) (e:List (κ×ν)):∀g:List (κ×ν),JM c K (g++d::e)=c d (JM c K (g++e))
 | []=>rfl
 |x::xs=>by
  have:=KC f K d e xs;unfold JM at this ⊢;rw[List.cons_append,List.cons_append,List.foldr_cons,List.foldr_cons,this,f]
end
section
variable {P:Program} {rd:Option Nat} {c:uM} {n:Sz} {σ σ':Fr} {M L M' L':List aY} {Q:Exit->Act->World->Prop} {ops:Array Oper} {rest:List Oper}
variable {d:Option Tmp} {ty:TypeId} {pos:String} {aft:Array Edge} {g:Option (Nat×Bool)}
variable {κ ν:Type} [DecidableEq κ] {ek:κ->Value} {ev:ν->Value} {R:Type}
theorem aL.range [cL P] (j:Nat) {T f h:TypeId} {q r:Nat} {z:Value} {x:Operand} {m:Nat} {l:List (κ×ν)} (p:Go.Sx.ev σ x=some (.map (some m))) (o:M[j]? = some (Mp ek ev m l)) (k:cL.tab P T=some ⟨.map f h,q,r,z⟩):
  aL P c n σ M L ⟨d,.range T x,ty,pos,aft,g⟩ (λb:Nat=> .pointer (some ⟨b,0,none⟩)) (λb=>It b m l.length []::M) (λ_=>L):=λa w s t=>by
 obtain⟨F,i⟩:=t.res o;have e:(execOp a.eval ⟨d,.range T x,ty,pos,aft,g⟩).run P w = .ok (.value (.pointer (some ⟨w.heap.size,0,none⟩))) (w.alloc (.mapIter (some m) l.length #[] l.length)):=by
  simp[execOp,s.eval p,run_range_map w T f h m _ _ (cL.ok k).und i.2]
 simp only[Oper.wp,e,Oper.upon];exact⟨w.heap.size,rfl,t.push _ ⟨rfl,heap_alloc_new w _⟩⟩
def Fz (ek:κ->Value) (ev:ν->Value) (l:List (κ×ν)):Option Nat->Value
 |none=> .tuple #[.bool false]
 |some i=>match l[i]? with
  |some a=> .tuple #[.bool true,ek a.1,ev a.2]
  |none=>undef
def aaW (b:Nat) (a:List Nat):Option Nat->Prop
 |none=>∀i,i<b->i∈a
 |some i=>i<b∧i∉a
def QZ (M:List aY) (f b m e:Nat) (a:List Nat):Option Nat->List aY
 |none=>M
 |some i=>M.set f (It b m e (a++[i]))
theorem St.pureL {w:World} {p:Prop} (hp:p) (t:St c M L w):St c M (ZL p::L) w:=by
 obtain⟨ho,F,hF,hL⟩:=t;refine⟨ho,F,hF,λf hf=> ?_⟩
 rcases List.mem_cons.1 hf with rfl|hf
 ·exact hp
 ·exact hL f hf
theorem aL.next (jm ji:Nat) {x:Operand} {b m:Nat} {l:List (κ×ν)} {seen:List Nat} (hx:Go.Sx.ev σ x=some (.pointer (some ⟨b,0,none⟩))) (hf:M[jm]? = some (Mp ek ev m l)) (hi:M[ji]? = some (It b m l.length seen)):
  aL P c n σ M L ⟨d,.next x false,ty,pos,aft,g⟩ (Fz ek ev l) (QZ M ji b m l.length seen) (λo=>ZL (aaW l.length seen o)::L):=λa w s t=>by
 obtain⟨F,hF⟩:=t.res hf;obtain⟨G,hG⟩:=t.res hi;have hold:∀e∈(CU ek ev 0 l).toArray.toList,e.born<l.length:=λe he=>by
  obtain⟨i,kv,h1,h2⟩:=LJ ek ev 0 l e (by simpa using he);rw[h2];have:=bB h1;simp;omega
 rcases run_next_at (P:=P) w ty b m l.length l.length seen.toArray (CU ek ev 0 l).toArray l.length hG.2 hF.2 hold (Nat.le_refl _)with⟨h0,hr⟩|⟨e,he,w1,hw1,hr⟩
 ·have hrun:(execOp a.eval ⟨d,.next x false,ty,pos,aft,g⟩).run P w = .ok (.value (.tuple #[.bool false])) w:=by
   simp[execOp,s.eval hx,hr]
  simp only[Oper.wp,hrun,Oper.upon];refine⟨none,rfl,t.pureL λi hi'=> ?_⟩
  obtain⟨kv,hkv⟩:∃kv,l[i]? = some kv:=⟨_,List.getElem?_eq_getElem hi'⟩
  have:=all_seen _ _ h0 _ (by simpa using LF ek ev 0 l i kv hkv);simpa using this
 ·have hml:=_root_.Go.mem_left he;obtain⟨i,kv,h1,h2⟩:=LJ ek ev 0 l e (by simpa using hml.1);subst h2;rw[Nat.zero_add]at hr hml;have hrun:(execOp a.eval ⟨d,.next x false,ty,pos,aft,g⟩).run P w = .ok (.value (.tuple #[.bool true,ek kv.1,ev kv.2])) (setBlock w1 b (.mapIter (some m) l.length (seen.toArray.push i) l.length)):=by
   simp[execOp,s.eval hx,hr]
  simp only[Oper.wp,hrun,Oper.upon];have t1:St c M L w1:=by
   rcases hw1 with rfl|rfl
   ·exact t
   ·exact t.ext ((Below.refl _ _).drew)
  refine⟨some i,by simp[Fz,h1],St.pureL ⟨bB h1,by simpa using hml.2⟩ ?_⟩
  refine t1.upd hi Z Z Z (by simp[setBlock]) λF hF _=>⟨λk _ hk=> ?_,F,⟨hF.1,?_⟩,λ_ h=> .inl h⟩
  ·simp only[setBlock];rw[Array.getElem?_setIfInBounds_ne (λe=>hk (by subst e;exact hF.1))]
  ·simp only[setBlock];rw[Array.getElem?_setIfInBounds_self_of_lt (Array.getElem?_eq_some_iff.1 hF.2).1];simp
theorem aL.entry (A z:Nat) {x:Operand} {b m i:Nat} {l:List (κ×ν)} {f:List Nat} {e:κ×ν} (j:l[i]? = some e) (y:Go.Sx.ev σ x=some (.pointer (some ⟨b,0,none⟩))) (q:M[A]? = some (Mp ek ev m l)) (r:M[z]? = some (It b m l.length (f++[i]))):
  aL P c n σ M L ⟨d,.entry x,ty,pos,aft,g⟩ (λ_:Unit=> .tuple #[ek e.1,ev e.2]) (λ_=>M) (λ_=>L):=λa w s t=>by
 obtain⟨F,o⟩:=t.res q;obtain⟨G,p⟩:=t.res r;have k:=LF ek ev 0 l i e j;rw[Nat.zero_add]at k;have u:((CU ek ev 0 l).toArray.toList.map (·.born)).Nodup:=by
  simp only[Nu];exact List.nodup_range'
 have v:=run_entry_at (P:=P) w b m l.length f.toArray (CU ek ev 0 l).toArray l.length ⟨ek e.1,ev e.2,i⟩ (by rw[p.2];simp) o.2 (by simpa using k) u;have h:(execOp a.eval ⟨d,.entry x,ty,pos,aft,g⟩).run P w = .ok (.value (.tuple #[ek e.1,ev e.2])) w:=by
  simp[execOp,s.eval y,v]
 simp only[Oper.wp,h,Oper.upon];exact⟨(),by first|rfl|trivial,t⟩
theorem WA {G:Act->World->Prop} (σ':Fr) (M' L':List aY) (f:xU σ σ') (e:bA M M') (b:aE [] L L') (h:J c n σ' M' L' G):J c n σ M L G:=λa w s t=>h a w (s.weak f) (t.weakE e b)
theorem OE {e:TypeId} {d:TypeDesc} (p:P.underlying e=some d) (m:∀b k w,(Instr.checkKey b 10000 e (ek k)).run P w = .ok () w) (o:∀a b,Instr.sameNow d (ek a) (ek b)=none)
  (r:∀a b w,(Op.equal e (ek a) (ek b)).run P w = .ok (decide (a=b)) w) (f:∀k,Instr.sameBits 10000 (ek k) (ek k)=true):Ij P e ek:=by
 refine⟨m,λ{ν'} ev' k l w=> ?_,f⟩
 have j:∀(l:List (κ×ν')) (i:Nat),(Instr.findAsking e (ek k) (CU ek ev' i l) i).run P w = .ok (SH ev' k i l) w:=by
  intro l
  induction l with
  |nil=>intro i;simp[CU,SH,Instr.findAsking]
  |cons x q t=>
   intro i;simp only[CU,SH,Instr.findAsking];simp[r];by_cases h:k=x.1
   ·simp[h]
   ·simp[h,t]
 unfold Instr.findKey;cases l with
 |nil=>simp[CU,SH,Instr.findNow,run_underlying p w]
 |cons x q=>
  have s:Instr.findNow d (ek k) (CU ek ev' 0 (x::q)) 0=none:=by simp[CU,Instr.findNow,o]
  simp[run_underlying p w,s,j]
def TG {R:Type} (c:uM) (n:Sz) (σ:Fr) (M L:List aY) (x:Option R) (r:R) (a:Act) (w:World):Prop:=x=some r∧Es n σ a∧St c M L w
theorem OC {R:Type} {x:Option R} {r:R} (h:x=some r) (e:xU σ' σ) (b:bA M' M) (a:aE [] L' L):J c n σ' M' L' (TG c n σ M L x r):=λ_ _ s t=>⟨h,s.weak e,t.weakE b a⟩
theorem RX (p:κ×ν->Option R->Option R) {K:Option R} {r:R} (O s:Nat) {b m:Nat} {l:List (κ×ν)} (hc:∀a b x,p a (p b x)=p b (p a x)) (h:JM p K l=some r)
  (hf:M[O]? = some (Mp ek ev m l)) (U:M[s]? = some (It b m l.length [])) (af:Nat.beq s O=false) {t0 S T:Tmp} (hx:lk σ t0=some (.pointer (some ⟨b,0,none⟩))) (ab:Nat.blt S n.sz=true) (E:Nat.blt T n.sz=true)
  {id ex:Nat} {y1 y2:TypeId} {q1 q2:String} {f1 f2:Array Edge} {y:Code}
  (C:∀(t:κ×ν) (i:Nat) (k:List Nat) (x:Option R),l[i]? = some t->p t x=some r->
   J c n ((T,.bool true)::(S,.tuple #[.bool true,ek t.1,ev t.2])::σ) (M.set s (It b m l.length (k++[i]))) L (y.wpr rd P (Exit.then (TG c n σ (M.set s (It b m l.length (k++[i]))) L x r) Q)))
  (V:∀k,K=some r->J c n ((T,.bool false)::(S,.tuple #[.bool false])::σ) (M.set s (It b m l.length k)) L (Q (.exit ex))):
  J c n σ M L ((Code.loop (Code.seq (Code.region id [⟨some S,.next (.tmp t0) false,y1,q1,f1,none⟩,⟨some T,.extract (.tmp S) 0,y2,q2,f2,none⟩].toArray false) (Code.seq (Code.cond (.tmp T) .skip (.exit ex)) y))).wpr rd P Q):=by
 have z:=bB U;have ae:O≠s:=λe=>by subst e;simp at af
 have H:M.set s (It b m l.length [])=M:=by
  apply List.ext_getElem?;intro q;by_cases eq:q=s
  ·subst eq;rw[List.getElem?_set_self z,U]
  ·rw[List.getElem?_set_ne (Ne.symm eq)]
 refine Tw (X:=List Nat) (λk=>k.Nodup∧(∀i∈k,i<l.length)∧JM p K (rem l k)=some r) (λ_=>σ) (λk=>M.set s (It b m l.length k)) (λ_=>L) (λk=>l.length - k.length) [] ⟨List.nodup_nil,by simp,by rw[YF];exact h⟩ (xU.refl _) (by rw[H];exact bA.refl _) (λ_ h=>h) ?_;rintro k ⟨G,F,v⟩;have ac:(M.set s (It b m l.length k))[O]? = some (Mp ek ev m l):=by rw[List.getElem?_set_ne (Ne.symm ae)];exact hf
 have ad:(M.set s (It b m l.length k))[s]? = some (It b m l.length k):=List.getElem?_set_self z;refine aM (aQ (aH (aL.next O s (x:= .tmp t0) hx ac ad) ab λo=> ?_));refine ZI List.mem_cons_self λho=> ?_;refine ZJ (M':=QZ (M.set s (It b m l.length k)) s b m l.length k o) (L':=L) ?_ (xU.refl _) (bA.refl _) (λf hf=>List.mem_cons_of_mem _ hf);cases o with
 | none =>
  refine aD (fN (vs:=[.bool false]) (by simp[Fz,lk,Go.Sx.ev]) Z) E (eN (Aq (aM (Dm (by simp[lk,Go.Sx.ev]) (sW (eZ (eZ ?_)))))));refine V k ?_;have:rem l k=[]:=by
   unfold rem;rw[List.filter_eq_nil_iff.2 (λi U=>by simpa using ho i (by simpa using U))];rfl
  rw[this]at v;exact v
 | some i =>
  obtain⟨W,Y⟩:=ho;obtain⟨t,A⟩:∃t,l[i]? = some t:=⟨_,List.getElem?_eq_getElem W⟩
  have N:Fz ek ev l (some i) = .tuple #[.bool true,ek t.1,ev t.2]:=by simp[Fz,A]
  obtain⟨l1,l2,e1,e2⟩:=VK A Y;have B:p t (JM p K (rem l (k++[i])))=some r:=by
   rw[e2,<-KC hc K t l2 l1,<-e1];exact v
  have aa:QZ (M.set s (It b m l.length k)) s b m l.length k (some i)=M.set s (It b m l.length (k++[i])):=by simp[QZ]
  rw[N,aa];refine aD (fN (vs:=[.bool true,ek t.1,ev t.2]) (by simp[lk,Go.Sx.ev]) Z) E (eN (Aq (aM (Qd (by simp[lk,Go.Sx.ev]) (dR (Aq ?_))))));refine Tx (C t i k _ A B) λa w hw=>FX (λe a' w' q=> ?_) hw;cases e with
  | normal =>
   obtain⟨ai,ag,ah⟩:=q;refine⟨k++[i],⟨?_,?_,ai⟩,?_,ag,ah⟩
   ·rw[List.nodup_append];exact⟨G,by simp,λa ha b D=>by simp at D;subst D;rintro rfl;exact Y ha⟩
   ·intro j u;rcases List.mem_append.1 u with u|u
    ·exact F j u
    ·simp at u;subst u;exact W
   ·have:k.length<l.length:=by
     have I:(k++[i]).length<=(List.range l.length).length:=by
      apply List.Nodup.length_le_of_subset
      ·rw[List.nodup_append];exact⟨G,by simp,λa ha b D=>by simp at D;subst D;rintro rfl;exact Y ha⟩
      ·intro j u;rcases List.mem_append.1 u with u|u
       ·simpa using F j u
       ·simp at u;subst u;simpa using W
     simp at I;omega
    simp;omega
  |exit id=>exact q
  |goto l=>exact q
  |ret=>exact q
  |panic ch=>exact q
  |outgrown=>exact q
end
end Go.Sx
end
namespace Go.Sx
open Go.RowKit
section
variable {P:Program} {rd:Option Nat} {c:uM} {n:Sz} {σ σ':Fr} {M L M' L':List aY} {Q:Exit->Act->World->Prop} {ops:Array Oper} {rest:List Oper} {K:Act->World->Prop} {G:Act->World->Prop}
variable {d:Option Tmp} {D:Nat} {ty:TypeId} {pos:String} {aft:Array Edge} {g:Option (Nat×Bool)}
variable {α β:Type} {e:dD α} {r:eG α}
def Er (P:Program) (f:FuncId) (a:Array Value) (Min L:List aY) {A:Type} (b:A->Value) (h:A->List aY->List aY):Prop:=
 ∀c:uM,St c Min L c.w0->Calls P f a c.w0 λe i=>∃x:A,e = .returned (b x)∧St c (h x []) [] i
theorem Er.of {A:Type} {b:A->Value} {q:A->List aY->List aY} {f:FuncId} {i:Func} {a:Code} {vs:List Value} {m:Nat} {Min:List aY}
  (u:P.funcs[f]? = some i) (s:i.body=some a) (x:i.ntmps=m) (w:Nat.ble vs.length m=true)
  (h:∀c:uM,J c ⟨m,[]⟩ (wX 0 vs) Min L (a.wpr none P (gW P i (ME c b q (λ_ l=>l))))):Er P f vs.toArray Min L b q:=λc t=>by
 have o:vs.length<=m:=by simpa using w
 refine sG u s (h c _ _ ⟨rfl,by simp[x,o],?_⟩ t);intro t v y;obtain⟨_,j⟩:=CO vs 0 t v y;rw[Nat.sub_zero]at j;have p:t<vs.length:=by
  rcases Nat.lt_or_ge t vs.length with k|k
  ·exact k
  ·rw[List.getElem?_eq_none k]at j;cases j
 rw[Array.getElem?_append_left (by simpa using p)];simpa using j
theorem TP {w S:World} {l H v:List aY} {F:Nat->Nat->Prop} {U:Nat->Prop} (y:AY c.O c.w0 w) (o:Za c w (l++H) F) (Y:∀f∈L,f.p w (DO c F))
  (t:St ⟨w,U,λk=>∃i,i<l.length∧F i k⟩ v [] S):St c (v++H) L S:=by
 obtain⟨s,T,u,_⟩:=t;have C:=s.size;have x:∀k,k<w.heap.size->(∀i,i<l.length->¬F i k)->S.heap[k]? = w.heap[k]? := λk a hn=>s.block k a (fun⟨i,B,o⟩=>hn i B o);have b:∀i k,T i k->w.heap.size<=k∨∃j,j<l.length∧F j k:=λi k a=>(u.rng i k a).1;refine⟨⟨s.os.trans y.os,s.tape.trans y.tape,s.output.trans y.output,Nat.le_trans y.size C,λk a W=> ?_⟩,
  λi k=>(i<v.length∧T i k)∨(v.length<=i∧F (i - v.length+l.length) k),⟨?_,?_,?_⟩,λf hf=> ?_⟩
 ·refine(x k (Nat.lt_of_lt_of_le a y.size) (λi _ I=> ?_)).trans (y.block k a W);rcases(o.rng i k I).1 with h|h
  ·omega
  ·exact W h
 ·intro i m E;by_cases B:i<v.length
  ·rw[List.getElem?_append_left B]at E;exact aY.same (u.res i m E) (λk a=> .inl ⟨B,a⟩) (λ_ _ _=>rfl)
  ·rw[List.getElem?_append_right (by omega)]at E;have R:(l++H)[i - v.length+l.length]? = some m:=by
    rw[List.getElem?_append_right (by omega),Nat.add_sub_cancel];exact E
   exact aY.same (o.res _ m R) (λk a=> .inr ⟨by omega,a⟩) (λk a N=>x k N (λj X J=>by have:=o.dis _ _ k J a;omega))
 ·rintro i k (⟨_,a⟩|⟨_,a⟩)
  ·refine⟨?_,(u.rng i k a).2⟩
   rcases b i k a with h|⟨j,_,h⟩
   ·exact .inl (Nat.le_trans y.size h)
   ·exact(o.rng j k h).1
  ·exact⟨(o.rng _ k a).1,Nat.lt_of_lt_of_le (o.rng _ k a).2 C⟩
 ·rintro i j k (⟨B,z⟩|⟨B,z⟩) (⟨X,A⟩|⟨X,A⟩)
  ·exact u.dis i j k z A
  ·rcases b i k z with h|⟨q,hq,h⟩
   ·have:=(o.rng _ k A).2;omega
   ·have:=o.dis _ _ k h A;omega
  ·rcases b j k A with h|⟨q,hq,h⟩
   ·have:=(o.rng _ k z).2;omega
   ·have:=o.dis _ _ k h z;omega
  ·have:=o.dis _ _ k z A;omega
 ·refine f.mono (Y f hf) λk a N=>⟨⟨a.1,?_⟩,x k N (λi _=>a.2 i)⟩
  rintro i (⟨_,h⟩|⟨_,h⟩)
  ·rcases b i k h with V|⟨q,_,V⟩
   ·omega
   ·exact a.2 q V
  ·exact a.2 _ h
theorem St.enterM {w:World} {a u t:List aY} {F:Nat->Nat->Prop} (o:Za c w (a++u) F) (y:∀f∈L,f.p w (DO c F)) (B:aE u L t):
  St ⟨w,λk=>∀i,i<a.length->¬F i k,λk=>∃i,i<a.length∧F i k⟩ a t w:=by
 refine⟨AY.refl _,λi k=>i<a.length∧F i k,⟨λi m s=> ?_,λi k b=>⟨.inr ⟨i,b⟩,(o.rng i k b.2).2⟩,λi j k v x=>o.dis i j k v.2 x.2⟩,λf z=> ?_⟩
 ·have l:i<a.length:=by
   rcases Nat.lt_or_ge i a.length with q|q
   ·exact q
   ·rw[List.getElem?_eq_none q]at s;cases s
  exact aY.same (o.res i m (by rw[List.getElem?_append_left l];exact s)) (λk b=>⟨l,b⟩) (λ_ _ _=>rfl)
 ·refine B f z w (DO c F) (λj k=>F (j+a.length) k) _ y (λj m A=> ?_) (λk b=> ?_) (λj k b=> ?_)
  ·exact o.res _ m (by rw[List.getElem?_append_right (by omega),Nat.add_sub_cancel];exact A)
  ·exact⟨.inl λi _=>b.2 i,λi l=>b.2 i l.2⟩
  ·exact⟨.inl λi l h=>by have:=o.dis _ _ k h b;omega,λi l=>by have:=o.dis _ _ k l.2 b;omega⟩
theorem By {A:Type} {k:A->Value} {m:A->List aY->List aY} {f:FuncId} {p:List Operand} {vs:List Value} {b:Array TypeId} {q Min Mr:List aY} (z:aR P f)
  (C:Er P f vs.toArray Min q k m) (H:p.map (ev σ)=vs.map some) (y:bA M (Min++Mr)) (v:aE Mr L q) (o:∀x l,m x l=m x []++l):
  aL P c n σ M L ⟨d,.call ⟨.value (.func f),p.toArray,b⟩,ty,pos,aft,g⟩ k (λx=>m x Mr) (λ_=>L):=λa w s t=>by
 have j:(execOp a.eval ⟨d,.call ⟨.value (.func f),p.toArray,b⟩,ty,pos,aft,g⟩).run P w = .ok (.enter f vs.toArray) w:=by
  have e:=evs s H;simp[execOp,resolve,Act.eval,Deferred.ofValue,invoke,z _ w,e]
 simp only[Oper.wp,j,Oper.upon];obtain⟨B,F,u,i⟩:=t.weak (L':=L) y (λ_ h=>h);refine(C _ (St.enterM u i v)).mono ?_;rintro e I ⟨x,rfl,E⟩;refine⟨x,rfl,?_⟩
 rw[o];exact TP B u i E
def WC {A B:Type} (c:uM) (C:A->Prop) (a:A->B->Value) (f b:A->B->List aY) (e:Ending) (w:World):Prop:=∃x y,C x∧e = .returned (a x y)∧St c (f x y) (b x y) w
theorem IQ {j:Func} {a:List Value} {m:Nat} (l:j.ntmps=m) (k:Nat.ble a.length m=true):Es ⟨m,[]⟩ (wX 0 a) {tmps:=a.toArray++Array.replicate (j.ntmps - a.toArray.size) undef,defers:=[]}:=by
 have h:a.length<=m:=by simpa using k
 refine⟨rfl,by simp[l,h],?_⟩
 intro t v o;obtain⟨_,b⟩:=CO a 0 t v o;rw[Nat.sub_zero]at b;have i:t<a.length:=by
  rcases Nat.lt_or_ge t a.length with f|f
  ·exact f
  ·rw[List.getElem?_eq_none f]at b;cases b
 rw[Array.getElem?_append_left (by simpa using i)];simpa using b
structure xR (P:Program) (c:uM) (n:Sz) (σ:Fr) (M L:List aY) (o:Oper) (f:FuncId) (vs:List Value):Prop where
 run:∀a w,Es n σ a->St c M L w->(execOp a.eval o).run P w = .ok (.enter f vs.toArray) w
theorem xR.fn {f:FuncId} {xs:List Operand} {vs:List Value} {b:Array TypeId} (h:aR P f) (i:xs.map (ev σ)=vs.map some):xR P c n σ M L ⟨d,.call ⟨.value (.func f),xs.toArray,b⟩,ty,pos,aft,g⟩ f vs:=⟨λa w s _=>by
 have e:=evs s i;simp[execOp,resolve,Act.eval,Deferred.ofValue,invoke,h _ w,e]⟩
theorem RQ {f:FuncId} {t:Tmp} {h:List Operand} {us cs vs:List Value} {b:Array TypeId} (j:aR P f) (k:lk σ t=some (.func (.func f) #[] cs.toArray)) (m:h.map (ev σ)=us.map some) (l:us++cs=vs):xR P c n σ M L ⟨d,.call ⟨.value (.tmp t),h.toArray,b⟩,ty,pos,aft,g⟩ f vs:=⟨λa w s _=>by
 have e:=evs s m;have i:a.eval (.tmp t) = .func (.func f) #[] cs.toArray:=s.eval (x:= .tmp t) k;subst l;simp[execOp,resolve,i,Deferred.ofValue,invoke,j _ w,e]⟩
def HM (P:Program) (c:uM) (n:Sz) (σ:Fr) (M L:List aY) (b:Func) (v:Value):Prop:=∀a w,Es n σ a->St c M L w->(results b a.tmps).run P w = .ok v w
variable {fn:Func}
theorem HM.r0 (b:fn.results = #[]):HM P c n σ M L fn (.tuple #[]):=λa w _ _=>by simp[results,b]
theorem HM.r1 {f:ResultVar} {h:Value} (b:fn.results = #[f]) (i:RV P c n σ M L f h):HM P c n σ M L fn h:=λa w s t=>by
 have:=i a w s t;simp only[zX,b];simp[this]
theorem HM.r2 {i j:ResultVar} {k l:Value} (b:fn.results = #[i,j]) (f:RV P c n σ M L i k) (h:RV P c n σ M L j l):HM P c n σ M L fn (.tuple #[k,l]):=λa w s t=>by
 have f:=f a w s t;have h:=h a w s t;simp only[zX,b];simp[f,h]
theorem zJ {A B:Type} {m:Sz} {v:Value} {f:Exit} {C:A->Prop} {b:A->B->Value} {k j:A->B->List aY} (x:A) (y:B) (l:C x) (i:f = .ret∨f = .normal) (q:HM P c m σ' M L fn v) (u:v=b x y) (p:bA M (k x y)) (o:aE [] L (j x y)) (h:m.ds=[]:=by rfl):
  J c m σ' M L (gW P fn (WC c C b k j) f):=λa w s t=>by
 exact body_end i (s.defers.trans h) (q a w s t) ⟨x,y,l,by rw[u],t.weakE p o⟩
end
section
variable {P:Program} {rd:Option Nat} {c:uM} {n:Sz} {σ σ':Fr} {M L M' L':List aY} {Q:Exit->Act->World->Prop} {ops:Array Oper} {rest:List Oper} {K:Act->World->Prop} {G:Act->World->Prop}
variable {d:Option Tmp} {D:Nat} {ty:TypeId} {pos:String} {aft:Array Edge} {g:Option (Nat×Bool)}
variable {α β:Type} {e:dD α} {r:eG α}
theorem MP (i:Nat) {k:Int} {vs:List Value} {xss:List (List α)} (E:M[i]? = some (jH e vs xss)) (h:0<=k∧k<xss.length):
  rQ M L (Ar e (at' vs k) (at' xss k)::M.set i (jH e (vs.set k.toNat (.slice none 0 0)) (xss.set k.toNat []))) L:=λc w t=>by
 obtain⟨X,F,s,W⟩:=t;obtain⟨A,G,U,u,O⟩:=s.res i _ E;have R:k.toNat<vs.length:=by omega
 have S:i<M.length:=(List.getElem?_eq_some_iff.1 E).1;have B:=U k.toNat _ _ (lB h.1 (by omega)) (lB h.1 h.2);refine⟨X,λj q=>match j with|0=>G k.toNat q|j+1=>(j=i∧∃p,p≠k.toNat∧G p q)∨(j≠i∧F j q),⟨?_,?_,?_⟩,λf E=> ?_⟩
 ·intro j m y;cases j with
  |zero=>simp at y;subst y;exact B
  | succ j =>
   rw[List.getElem?_cons_succ]at y;by_cases N:j=i
   ·subst N;rw[List.getElem?_set_self S]at y;cases y;refine⟨by simp[A],λp q=>p≠k.toNat∧G p q,λp v V H I=> ?_,λp q a=> .inl ⟨rfl,p,a⟩,λT C q b l=>O _ _ q b.2 l.2⟩
    by_cases x:p=k.toNat
    ·subst x;rw[List.getElem?_set_self R]at H;rw[List.getElem?_set_self (by omega)]at I;cases H;cases I;exact⟨by simp,rfl,.inl ⟨rfl,rfl⟩⟩
    ·rw[List.getElem?_set_ne (Ne.symm x)]at H I;exact aY.same (f:=Ar e v V) (U p v V H I) (λq a=>⟨x,a⟩) (λ_ _ _=>rfl)
   ·rw[List.getElem?_set_ne (Ne.symm N)]at y;exact aY.same (s.res j m y) (λq a=> .inr ⟨N,a⟩) (λ_ _ _=>rfl)
 ·intro j q a;cases j with
  |zero=>exact s.rng i q (u _ q a)
  |succ j=>
   rcases a with⟨_,p,_,a⟩|⟨_,a⟩
   ·exact s.rng i q (u _ q a)
   ·exact s.rng j q a
 ·intro T C q b l;cases T with
  | zero =>
   cases C with
   |zero=>rfl
   |succ C=>
    rcases l with⟨_,p,o,l⟩|⟨o,l⟩
    ·exact absurd (O _ _ q l b) o
    ·exact absurd (s.dis _ _ q l (u _ q b)) o
  | succ T =>
   cases C with
   |zero=>
    rcases b with⟨_,p,o,b⟩|⟨o,b⟩
    ·exact absurd (O _ _ q b l) o
    ·exact absurd (s.dis _ _ q b (u _ q l)) o
   |succ C=>
    congr 1;rcases b with⟨J,p,_,b⟩|⟨J,b⟩<;>rcases l with⟨x,Y,_,l⟩|⟨x,l⟩
    ·rw[J,x]
    ·exact absurd (s.dis _ _ q l (u _ q b)) x
    ·exact absurd (s.dis _ _ q b (u _ q l)) J
    ·exact s.dis _ _ q b l
 ·refine aY.same (W f E) (λq a=>⟨a.1,λj z=> ?_⟩) (λ_ _ _=>rfl);cases j with
  |zero=>exact a.2 i (u _ q z)
  |succ j=>
   rcases z with⟨_,p,_,z⟩|⟨_,z⟩
   ·exact a.2 i (u _ q z)
   ·exact a.2 j z
theorem ML (i j:Nat) {u:Value} {k:Int} {vs:List Value} {xss:List (List α)} {ys:List α} (a:Nat.beq i j=false) (b:M[i]? = some (jH e (vs.set k.toNat (.slice none 0 0)) (xss.set k.toNat []))) (f:M[j]? = some (Ar e u ys)) (h:0<=k∧k<(xss.set k.toNat []).length):
  rQ M L ((M.set i (jH e (vs.set k.toNat u) (xss.set k.toNat ys))).eraseIdx j) L:=by
 have:=wR (L:=L) i j a b f h;rwa[List.set_set,List.set_set]at this
theorem Ke {α:Type} [Inhabited α] (l:List α) {j k:Int} (y:α) (h:j.toNat≠k.toNat):at' (l.set j.toNat y) k=at' l k:=by
 rw[at',at',List.getD_eq_getElem?_getD,List.getD_eq_getElem?_getD,List.getElem?_set_ne h]
theorem yF [cL P] (i:Nat) {r:eG α} (f:e.Fits r) {x y:Operand} {u o:Value} {k j:Int} {vs:List Value} {a:List (List α)} {l b:List α} {T E:TypeId} {S U m s:Nat} {z t:Value} {v:TypeDesc} (N:ev σ x=some (at' vs k)) (O:ev σ y=some u) (H:M[i]? = some (jH e (vs.set j.toNat o) (a.set j.toNat b))) (I:aF M L (Sl r u l))
  (F:cL.tab P T=some ⟨.slice E,S,U,z⟩) (C:cL.tab P E=some ⟨v,m,s,t⟩) (A:e.sz=m) (B:Nat.ble s 1024=true) (w:0<=k∧k<a.length) (J:((at' a k).length:Int)+l.length<=1099511627) (R:t.cells.size=m) (h:j.toNat≠k.toNat):
  aL P c n σ M L ⟨d,.call ⟨.builtin .append,#[x,y],#[T,T]⟩,ty,pos,aft,g⟩ (λp:Value=>p) (λp=>M.set i (jH e ((vs.set j.toNat o).set k.toNat p) ((a.set j.toNat b).set k.toNat (at' a k++l)))) (λ_=>L):=by
 have q:at' (a.set j.toNat b) k=at' a k:=Ke _ _ h;have:=qI (P:=P) (c:=c) (n:=n) (σ:=σ) (M:=M) (L:=L) (d:=d) (ty:=ty) (pos:=pos) (aft:=aft) (g:=g) (x:=x) (y:=y) (u:=u) (k:=k) (vs:=vs.set j.toNat o) (xss:=a.set j.toNat b) (ys:=l) i f (by rw[Ke _ _ h];exact N) O H I F C A B (by simpa using w) (by rw[q];exact J) R;rwa[q]at this
theorem Bw (q:Nat) {vs:List Value} {a:List (List α)} {k j:Int} {u z:Value} (x:M[q]? = some (jH e ((vs.set k.toNat u).set j.toNat z) a)) (i:k.toNat≠j.toNat) (h:0<=k∧k<a.length):∀c w,St c M L w->Go.Sx.one u=true:=λc w t=>by
 obtain⟨S,v,A,p,_⟩:=t.res x;have f:k.toNat<vs.length:=by simp at v;omega
 obtain⟨_,_,s⟩:=p k.toNat u _ (by rw[List.getElem?_set_ne (Ne.symm i),List.getElem?_set_self f]) (List.getElem?_eq_getElem (by omega));rcases s with⟨l,_⟩|⟨b,y,m,T,o,l,_⟩<;>(rw[l];rfl)
theorem KZ {A:Type} {b:A->Value} {M' L':A->List aY} {f:Op} (j:aL P c n σ M L ⟨none,f,ty,pos,aft,none⟩ b M' L') (h:∀x,J c n σ (M' x) (L' x) (wpList P ops Q rest)):
  J c n σ M L (wpList P ops Q (⟨none,f,ty,pos,aft,none⟩::rest)):=λa w s t=>
 mN Z (Jd (nN (λm l ⟨x,i,k⟩=>by subst i;exact h x _ l s k) (j a w s t)))
end
section
variable {P:Program} {rd:Option Nat} {c:uM} {n:Sz} {σ σ':Fr} {M L M' L':List aY} {Q:Exit->Act->World->Prop} {ops:Array Oper} {rest:List Oper} {K:Act->World->Prop} {G:Act->World->Prop}
variable {d:Option Tmp} {D:Nat} {ty:TypeId} {pos:String} {aft:Array Edge} {g:Option (Nat×Bool)}
variable {α β:Type} {e:dD α} {r:eG α}
theorem Mz [cL P] (j:Nat) {T:TypeId} {s2:Nat} {z:Value} {dT:TypeDesc} {x y:Operand} {v u:Value} {i:Int} {m:List α} (yv:α) (hx:ev σ x=some (Dt v (i.toNat*1))) (hy:ev σ y=some u) (hu:e.enc yv=[u]) (B:one u=true)
  (X:M[j]? = some (Ar e v m)) (hT:cL.tab P T=some ⟨dT,1,s2,z⟩) (N:e.sz=1) (h0:0<=i) (W:i<m.length):
  aL P c n σ M L ⟨none,.store T x y,ty,pos,aft,none⟩ (λ_:Unit=>undef) (λ_=>M.set j (Ar e v (m.set i.toNat yv))) (λ_=>L):=λa w s t=>by
 obtain⟨F,J⟩:=t.res X;have Y:i.toNat<m.length:=by omega
 have E:m[i.toNat]? = some m[i.toNat]:=List.getElem?_eq_getElem Y;have H:m≠[]:=by intro e;subst e;simp at Y
 obtain⟨p,hp⟩:∃p,e.enc m[i.toNat]=[p]:=List.length_eq_one_iff.1 ((e.len _).trans N);have f:=Dl.cell J E (j:=0) (u:=p) (by rw[hp];rfl);rw[N,Nat.add_zero,Nat.mul_one]at f;rw[Nat.mul_one]at hx;have o:=Ml J H i.toNat;have I:(execOp a.eval ⟨none,.store T x y,ty,pos,aft,none⟩).run P w = .ok .skip (w.setCell (JC v i.toNat) u):=by
  simp only[execOp,s.eval hx,s.eval hy,Dt];simp[BY (cL.ok hT) Z B f o]
 simp only[Oper.wp,I,Oper.upon];refine⟨(),trivial,t.upd X Z Z Z (by simp[World.setCell]) λF J _=> ?_⟩
 obtain⟨hl,W,S⟩:=J;rcases S with⟨_,S⟩|⟨b,l,A,T',O,hv,C,hb,hk,hc,ht⟩
 ·exact absurd S H
 ·subst hv;have ha:JC (.slice (some ⟨b,l,none⟩) m.length A) i.toNat=⟨b,l+i.toNat,none⟩:=by simp[JC,eO]
  rw[ha];refine⟨λk _ U=>Below.heap_setCell _ _ _ _ (λe=>U (by simp only at e;subst e;exact C)),F,⟨by simpa using hl,?_,.inr ⟨b,l,A,T',O.setIfInBounds (l+i.toNat) u,by simp,C,?_,by simpa using hk,by simpa using hc,?_⟩⟩,λ_ h=> .inl h⟩
  ·rw[vH N hu,List.all_eq_true];intro q V;rcases List.mem_or_eq_of_mem_set V with R|R
   ·exact List.all_eq_true.1 W q R
   ·rw[R];exact B
  ·simp[World.setCell,Array.getElem?_modify,hb]
  ·rw[vH N hu,<-ht,Array.toList_setIfInBounds,List.length_set,<-take_set];congr 1;rw[List.drop_set,if_neg (by omega),Nat.add_sub_cancel_left]
theorem My [cL P] (i:Nat) {T j:TypeId} {C:Nat} {z:Value} {m:TypeDesc} {x y:Operand} {b o:Nat} {cs:List Value} {v:Value} (A:ev σ x=some (.pointer (some ⟨b,o,none⟩)))
  (B:ev σ y=some v) (u:one v=true) (l:M[i]? = some (bX b cs j)) (p:cL.tab P T=some ⟨m,1,C,z⟩) (q:Nat.blt o cs.length=true):
  aL P c n σ M L ⟨none,.store T x y,ty,pos,aft,none⟩ (λ_:Unit=>undef) (λ_=>M.set i (bX b (cs.set o v) j)) (λ_=>L):=λa w s t=>by
 obtain⟨F,k⟩:=t.res l;have h:o<cs.length:=by simpa [Nat.blt_eq]using q
 have f:(execOp a.eval ⟨none,.store T x y,ty,pos,aft,none⟩).run P w = .ok .skip (w.setCell ⟨b,o,none⟩ v):=by
  simp[execOp,s.eval A,s.eval B,BY (cL.ok p) Z u (bX.cell k (List.getElem?_eq_getElem h)) (Mm k o)]
 simp only[Oper.wp,f,Oper.upon];exact⟨(),trivial,t.store l v⟩
theorem mL [cL P] (i:Nat) {T k:TypeId} {J:Nat} {z:Value} {u:TypeDesc} {x y:Operand} {b:Nat} {cs vs:List Value} (H:ev σ x=some (.pointer (some ⟨b,0,none⟩)))
  (I:ev σ y=some (.agg vs.toArray)) (E:vs.all one=true) (q:M[i]? = some (bX b cs k)) (B:cL.tab P T=some ⟨u,vs.length,J,z⟩) (C:Nat.beq vs.length cs.length=true):
  aL P c n σ M L ⟨none,.store T x y,ty,pos,aft,none⟩ (λ_:Unit=>undef) (λ_=>M.set i (bX b vs k)) (λ_=>L):=λa w s t=>by
 obtain⟨F,A⟩:=t.res q;have f:vs.length=cs.length:=Nat.eq_of_beq_eq_true C;have h:∀v∈vs,v.oneCell'=true:=λv p=>oU (by simpa using List.all_eq_true.1 E v p);obtain⟨N,l,o,_,_⟩:=(cL.ok B).info;have m:=run_storeVar_row (P:=P) w b k T cs.toArray vs.toArray A.2 (by simp[l,o]) (by simp[f]) (by simpa using h);have j:(execOp a.eval ⟨none,.store T x y,ty,pos,aft,none⟩).run P w = .ok .skip (w.setRow b vs.toArray):=by
  simp[execOp,s.eval H,s.eval I,Instr.storeAt,Instr.sureAddr,m]
 simp only[Oper.wp,j,Oper.upon];exact⟨(),trivial,t.fill q⟩
theorem AG [cL P] (j q:Nat) {T:TypeId} {E:Nat} {z:Value} {m:TypeDesc} {x y:Operand} {v u:Value} {i:Int} {vs b:List Value} {f:List (List α)} (h:0<=i∧i<f.length) (B:ev σ x=some (Dt v (i.toNat*1))) (C:ev σ y=some u)
  (p:M[j]? = some (Ar dD.raw v vs)) (A:M[q]? = some (jH e b f)) (F:b.length=vs.length) (k:one u=true) (o:cL.tab P T=some ⟨m,1,E,z⟩):
  aL P c n σ M L ⟨none,.store T x y,ty,pos,aft,none⟩ (λ_:Unit=>undef) (λ_=>M.set j (Ar dD.raw v (vs.set i.toNat u))) (λ_=>L):=λa w s t=>by
 have l:b.length=f.length:=by obtain⟨_,h⟩:=t.res A;exact h.1
 exact Mz j u B C Z k p o Z h.1 (by omega) a w s t
section
variable {l:List Oper} {m:List Nat} {k0:Nat} {H Bs:List (Nat×List aY×List aY)} {rs:List Nat}
theorem pJ {A:Type} {j:A->Value} {M' L':A->List aY} {i:Nat} {b:Op}
  (o:l[i]? = some ⟨none,b,ty,pos,aft,none⟩) (v:Nat.blt i k0=true) (y:eB b=true) (z:aL P c n σ M L ⟨none,b,ty,pos,aft,none⟩ j M' L')
  (q:∀x,AF (before m i) (M' x) (L' x) Bs) (h:∀x,JR c n σ (M' x) (L' x) ((i,M,L)::H) Bs (RW P l.toArray Q (before m) (cK l) k0 rs)):
  JR c n σ M L H Bs (RW P l.toArray Q (before m) (cK l) k0 (i::rs)):=λa w X Y s t u k=>by
 have f:l.toArray[i]? = some ⟨none,b,ty,pos,aft,none⟩:=by simpa using o
 simp only[RW,f];rw[if_pos (by simp[Region.wanted])];refine .inr (.inr ⟨by simpa [Nat.blt_eq]using v,by simp[cK,o,y],nN ?_ (z a w s t)⟩);rintro C B ⟨x,rfl,p⟩;exact⟨(q x).use p k,h x _ B _ Y s p ⟨rfl,t,u⟩ k⟩
end
theorem JZ {A B:Type} {f:FuncId} {j:Func} {b:Code} {k:List Value} {m:Nat} {q:Op} (C:A->Prop) (i:A->B->Value) (o l:A->B->List aY) (E:xR P c n σ M L ⟨d,q,ty,pos,aft,g⟩ f k) (F:P.funcs[f]? = some j) (z:j.body=some b) (I:j.ntmps=m) (H:Nat.ble k.length m=true)
  (u:J c ⟨m,[]⟩ (wX 0 k) M L (b.wpr none P (gW P j (WC c C i o l)))):
  aL P c n σ M L ⟨d,q,ty,pos,aft,g⟩ (λx:{p:A×B // C p.1}=>i x.1.1 x.1.2) (λx=>o x.1.1 x.1.2) (λx=>l x.1.1 x.1.2):=λa w s t=>by
 have h:=E.run a w s t;simp only[Oper.wp,h,Oper.upon];refine(sG F z (u _ w (IQ I H) t)).mono ?_;rintro e O ⟨x,y,v,rfl,N⟩;exact⟨⟨(x,y),v⟩,rfl,N⟩
theorem Cz {A B:Type} {f:FuncId} {j:Func} {h:Code} {vs:List Value} {m:Nat} {o:Op} (C:A->Prop) (i:A->B->Value) (l k:A->B->List aY) (v:xR P c n σ M L ⟨some D,o,ty,pos,aft,none⟩ f vs) (w:P.funcs[f]? = some j) (u:j.body=some h) (y:j.ntmps=m) (x:Nat.ble vs.length m=true) (t:Nat.blt D n.sz=true)
  (p:J c ⟨m,[]⟩ (wX 0 vs) M L (h.wpr none P (gW P j (WC c C i l k)))) (q:∀a b,C a->J c n ((D,i a b)::σ) (l a b) (k a b) (wpList P ops Q rest)):J c n σ M L (wpList P ops Q (⟨some D,o,ty,pos,aft,none⟩::rest)):=
 aH (JZ C i l k v w u y x p) t fun⟨⟨a,b⟩,s⟩=>q a b s
section
variable {l:List Oper} {mm:List Nat} {k0:Nat} {H Bs:List (Nat×List aY×List aY)} {rs:List Nat}
theorem Qe {A B:Type} {i:Nat} {f:FuncId} {p:Func} {h:Code} {vs:List Value} {m:Nat} {q:Op} (C:A->Prop) (j:A->B->Value) (o k:A->B->List aY) (E:l[i]? = some ⟨some D,q,ty,pos,aft,none⟩) (F:Nat.blt i k0=true) (I:eB q=true) (y:xR P c n σ M L ⟨some D,q,ty,pos,aft,none⟩ f vs) (z:P.funcs[f]? = some p) (x:p.body=some h) (O:p.ntmps=m) (N:Nat.ble vs.length m=true) (w:Nat.blt D n.sz=true)
  (u:∀a b,AF (before mm i) (o a b) (k a b) Bs) (s:J c ⟨m,[]⟩ (wX 0 vs) M L (h.wpr none P (gW P p (WC c C j o k)))) (t:∀a b,C a->JR c n ((D,j a b)::σ) (o a b) (k a b) ((i,M,L)::H) Bs (RW P l.toArray Q (before mm) (cK l) k0 rs)):
  JR c n σ M L H Bs (RW P l.toArray Q (before mm) (cK l) k0 (i::rs)):=
 JR.loud E F I (JZ C j o k y z x O N s) w (λ_=>u _ _) fun⟨⟨a,b⟩,v⟩=>t a b v
end
theorem Dq [cL P] {T E:TypeId} {k q u b A:Nat} {z B:Value} {f:TypeDesc} {x y:Operand} {v:Value} {o:Nat} {i:Int} (m:ev σ x=some (Dt v o)) (p:ev σ y=some (.int .i64 i))
  (l:cL.tab P T=some ⟨.array k E,q,u,z⟩) (j:cL.tab P E=some ⟨f,b,A,B⟩) (_h3:(b==0)=false) (h:0<=i∧i<(k:Int)):
  Y P c n σ M L ⟨d,.indexAddr T x y,ty,pos,aft,g⟩ (Dt v (o+i.toNat*b)):=λa w s t=>by
 simp[execOp,s.eval m,s.eval p,Instr.indexAt,asIntOf,(cL.ok l).run_und w,h,Instr.sureAddr,Dt,(cL.ok j).run_size w,HQ]
theorem bW {x:Operand} {b o:Nat} (f:ev σ x=some (.pointer (some ⟨b,o,none⟩))):Y P c n σ M L ⟨d,.nilCheck x,ty,pos,aft,g⟩ (.pointer (some ⟨b,o,none⟩)):=λa w s t=>by
 simp[execOp,s.eval f]
theorem MA [cL P] [Inhabited α] (j:Nat) {T:TypeId} {s2 k o q:Nat} {z:Value} {dT:TypeDesc} {x y:Operand} {v u:Value} {C:List Value} {i:Int} {p:List α} (N:α) (h:0<=i∧i<p.length) (hx:ev σ x=some (Dt v (i.toNat*q+o))) (hy:ev σ y=some u)
  (hf:M[j]? = some (Ar e v p)) (hq:e.sz=q) (V:u.cells=C.toArray) (hk:C.length=k) (ho:Nat.ble (o+k) q=true) (J:e.enc N=(e.enc (at' p i)).take o++C++(e.enc (at' p i)).drop (o+k)) (X:C.all one=true) (hT:cL.tab P T=some ⟨dT,k,s2,z⟩):
  aL P c n σ M L ⟨none,.store T x y,ty,pos,aft,none⟩ (λ_:Unit=>undef) (λ_=>M.set j (Ar e v (p.set i.toNat N))) (λ_=>L):=λa w s t=>by
 subst hq hk;have ar:o+C.length<=e.sz:=by simpa using ho
 have hi:i.toNat<p.length:=by omega
 have t0:=t;obtain⟨ak,FF,hO,ag⟩:=t0;obtain⟨h0,A,hh⟩:=hO.res j _ hf;rcases hh with⟨_,rfl⟩|⟨b,m,W,T',f,rfl,Y,aa,ab,hc,ht⟩
 ·simp at hi
 -- the parts of the row
 obtain⟨l,B,E,I,hl⟩:∃l B E,p=l++B::E∧l.length=i.toNat:=⟨p.take i.toNat,p[i.toNat],p.drop (i.toNat+1),by rw[List.getElem_cons_drop,List.take_append_drop],by simp;omega⟩
 have ai:at' p i=B:=by
  rw[at',List.getD_eq_getElem?_getD,<-hl,I,List.getElem?_append_right (Nat.le_refl _)];simp
 rw[ai]at J;have eE:=e.len B;have eA:(cellsOf e l).length=i.toNat*e.sz:=by rw[eK,hl]
 have F:cellsOf e p=cellsOf e l++(e.enc B++cellsOf e E):=by rw[I];simp[cellsOf]
 have U:cellsOf e (p.set i.toNat N)=cellsOf e l++(e.enc N++cellsOf e E):=by
  have:p.set i.toNat N=l++N::E:=by rw[I,<-hl,List.set_append_right _ _ (Nat.le_refl _)];simp
  rw[this];simp[cellsOf]
 have ap:p.length*e.sz<=W*e.sz:=Nat.mul_le_mul_right _ ab;obtain⟨O,R,S,hH⟩:∃O R,f.toList=O++(cellsOf e l++(e.enc B++(cellsOf e E++R)))∧O.length=m:=by
  refine⟨f.toList.take m,(f.toList.drop m).drop (p.length*e.sz),?_,by simp;omega⟩
  have e1:cellsOf e l++(e.enc B++(cellsOf e E++(f.toList.drop m).drop (p.length*e.sz)))=f.toList.drop m:=by
   have:cellsOf e l++(e.enc B++(cellsOf e E++(f.toList.drop m).drop (p.length*e.sz)))=cellsOf e p++(f.toList.drop m).drop (p.length*e.sz):=by rw[F];simp
   rw[this,<-ht,List.take_append_drop]
  rw[e1,List.take_append_drop]
 have an:f.size=f.toList.length:=by simp
 have al:f.toList.take (m+(i.toNat*e.sz+o))=O++(cellsOf e l++(e.enc B).take o):=by
  have:f.toList=(O++(cellsOf e l++(e.enc B).take o))++((e.enc B).drop o++(cellsOf e E++R)):=by
   rw[S,List.append_assoc,List.append_assoc,<-List.append_assoc ((e.enc B).take o),List.take_append_drop]
  rw[this];exact List.take_left' (by simp[hH,eA,eE];omega)
 have am:f.toList.drop (m+(i.toNat*e.sz+o)+C.length)=(e.enc B).drop (o+C.length)++(cellsOf e E++R):=by
  have:f.toList=(O++(cellsOf e l++(e.enc B).take (o+C.length)))++((e.enc B).drop (o+C.length)++(cellsOf e E++R)):=by
   rw[S,List.append_assoc,List.append_assoc,<-List.append_assoc ((e.enc B).take (o+C.length)),List.take_append_drop]
  rw[this];exact List.drop_left' (by simp[hH,eA,eE];omega)
 have af:(i.toNat+1)*e.sz<=p.length*e.sz:=Nat.mul_le_mul_right _ (by omega);have aq:(i.toNat+1)*e.sz=i.toNat*e.sz+e.sz:=by rw[Nat.add_mul,Nat.one_mul]
 have ac:m+(i.toNat*e.sz+o)+0+C.length<=f.size:=by omega
 have ae:=run_storeCells_at P b (m+(i.toNat*e.sz+o)) T' C 0 f w aa ac (λu V=>oU (List.all_eq_true.1 X u V));simp only[Nat.add_zero]at ae;have au:(cL.ok hT).run_size w=(cL.ok hT).run_size w:=rfl;have ad:(execOp a.eval ⟨none,.store T x y,ty,pos,aft,none⟩).run P w = .ok .skip (w.setRow b (f.toList.take (m+(i.toNat*e.sz+o))++C++f.toList.drop (m+(i.toNat*e.sz+o)+C.length)).toArray):=by
  simp[execOp,s.eval hx,s.eval hy,Dt,JC,Instr.storeAt,Instr.sureAddr,storeVar,V,(cL.ok hT).run_size w,eO,ae]
 simp only[Oper.wp,ad,Oper.upon];refine⟨(),trivial,?_⟩
 refine HO ak hO ag hf Z Z Z (by simp) (λk _ aj=>setRow_other w b k _ (λe=>aj (by subst e;exact Y))) (F':=FF j) ?_ (λk hk=> .inl hk);have H:(e.enc N).length=e.sz:=e.len N;refine⟨by simpa using h0,?_,.inr ⟨b,m,W,T',_,by simp,Y,setRow_heap w b _ _ T' _ aa,by simpa using ab,?_,?_⟩⟩
 ·rw[U];rw[F]at A;simp only[List.all_append,Bool.and_eq_true]at A ⊢;refine⟨A.1,?_,A.2.2⟩
  rw[J];simp only[List.all_append,Bool.and_eq_true];refine⟨⟨List.all_eq_true.2 λu V=>List.all_eq_true.1 A.2.1 u (List.mem_of_mem_take V),X⟩,List.all_eq_true.2 λu V=>List.all_eq_true.1 A.2.1 u (List.mem_of_mem_drop V)⟩
 ·simp only[List.size_toArray,List.length_append,List.length_take,List.length_drop];omega
 ·show((f.toList.take _++C++f.toList.drop _).drop m).take ((p.set i.toNat N).length*e.sz)=_;rw[al,am,U,J,List.length_set];have e3:(O++(cellsOf e l++(e.enc B).take o)++C++((e.enc B).drop (o+C.length)++(cellsOf e E++R)))=O++((cellsOf e l++(((e.enc B).take o++C++(e.enc B).drop (o+C.length))++cellsOf e E))++R):=by simp
  rw[e3,<-hH,List.drop_left];refine List.take_left' ?_;have ah:(cellsOf e E).length=E.length*e.sz:=eK e E;have ao:p.length=i.toNat+1+E.length:=by rw[I,<-hl];simp;omega
  rw[J]at H;rw[List.length_append,List.length_append,H,eA,ah,ao,Nat.add_mul,Nat.add_mul,Nat.one_mul];omega
end
def Dfr (D:Nat):aY where
 p w F:=F D∧w.heap[D]? = some (.deferred (some []))
 mono:=fun⟨b,a⟩ h=>by
  obtain⟨c,d⟩:=h D b (Array.getElem?_eq_some_iff.1 a).1;exact⟨c,by rw[d];exact a⟩
structure TK where
 n:Nat
 σ:Fr
 ps:Array Tmp
 assign:Code
 body:Code
 D:Nat
def Lp (l:Nat) (R:TK) (i:LoopState) (a:Option Code):aY where
 p w F:=F l∧∃(fn:FuncId) (tmps:Array Value),tmps.size=R.n∧(∀t v,lk R.σ t=some v->tmps[t]? = some v)∧
  w.heap[l]? = some (.loop {state:=i,pending:=a,fn:=fn,tmps:=tmps,params:=R.ps,assign:=R.assign,body:=R.body,defers:=R.D})
 mono:=fun⟨c,fn,tmps,d,e,b⟩ h=>by
  obtain⟨f,g⟩:=h l c (Array.getElem?_eq_some_iff.1 b).1;exact⟨f,fn,tmps,d,e,by rw[g];exact b⟩
def Vk (D:Nat):Deferred:={target:= .collected D,args:= #[]}
def rD (l:Nat):Value:= .func (.yield l) #[] #[]
section
variable {P:Program} {rd:Option Nat} {c:uM} {n m:Sz} {σ σ':Fr} {M L:List aY} {Q:Exit->Act->World->Prop} {K G:Act->World->Prop}
theorem St.putLp {w:World} {l i:Nat} {R:TK} {y d:LoopState} {b a:Option Code} (t:St c M L w) (v:M[i]? = some (Lp l R y b)) {r:Loop} (o:w.heap[l]? = some (.loop r)):
  St c (M.set i (Lp l R d a)) L (w.putObj l (.loop {r with state:=d,pending:=a})):=by
 refine t.upd v Z Z Z (by simp) λF j _=>⟨λk _ x=> ?_,F,?_,λ_ h=> .inl h⟩
 ·exact World.putObj_heap_other (λe=>x (by subst e;exact j.1))
 ·obtain⟨q,p,f,s,u,g⟩:=j;rw[g]at o;cases o;exact⟨q,p,f,s,u,World.putObj_heap_same (Array.getElem?_eq_some_iff.1 g).1⟩
def TL (P:Program) (n:Sz) (σ:Fr) (l D:Nat) (Q:Exit->Act->World->Prop) (e:Ending) (w:World):Prop:=
 ∀a,Es ⟨n.sz,Vk D::n.ds⟩ σ a->rangePost (FR none) 0 P l Q a e w
theorem Mu {g:Operand} {ps:Array Tmp} {assign body:Code} {f:FuncId} {fn:Func} {code:Code} {cs:List Value} {k:Nat} (hb:aR P f) (hx:ev σ g=some (.func (.func f) #[] cs.toArray)) (hf:P.funcs[f]? = some fn) (hbd:fn.body=some code) (hn:fn.ntmps=k) (hm:Nat.ble (cs.length+1) k=true)
  (h:∀l D,J c ⟨k,[]⟩ (wX 0 (rD l::cs)) (Lp l ⟨n.sz,σ,ps,assign,body,D⟩ .ready none::Dfr D::M) L (code.wpr none P (gW P fn (TL P n σ l D Q)))):
  J c n σ M L ((Code.rangeFunc g ps assign body).wpr none P Q):=λa w s t=>by
 refine wpIn_rangeFunc λfn' _=> ?_;have hev:a.eval g = .func (.func f) #[] cs.toArray:=s.eval hx;let W:World:=(w.alloc (.deferred (some []))).alloc (.loop {state:= .ready,pending:=none,fn:=fn',tmps:=a.tmps,params:=ps,assign:=assign,body:=body,defers:=w.heap.size});refine⟨_,_,_,{target:= .fn (.func f) cs.toArray,args:= #[rD (w.heap.size+1)]},W,f,(rD (w.heap.size+1)::cs).toArray,W,run_enterLoop_outer fn' a.tmps ps assign body,?_,λ_ _=>trivial,?_,(λhc=>by cases hc),?_⟩
 ·have hc:∀v,a.eval (.const v)=v:=λ_=>rfl;simp[resolve,hev,hc,Deferred.ofValue,rD,W]
 ·simp[invoke,hb _ _,rD]
 ·have t1:St c (Dfr w.heap.size::M) L (w.alloc (.deferred (some []))):=t.push _ ⟨rfl,heap_alloc_new w _⟩;have t2:St c (Lp (w.heap.size+1) ⟨n.sz,σ,ps,assign,body,w.heap.size⟩ .ready none::Dfr w.heap.size::M) L ((w.alloc (.deferred (some []))).alloc (.loop {state:= .ready,pending:=none,fn:=fn',tmps:=a.tmps,params:=ps,assign:=assign,body:=body,defers:=w.heap.size})):=by
   have:=t1.push (.loop {state:= .ready,pending:=none,fn:=fn',tmps:=a.tmps,params:=ps,assign:=assign,body:=body,defers:=w.heap.size}) (m:=Lp (w.heap.size+1) ⟨n.sz,σ,ps,assign,body,w.heap.size⟩ .ready none)
    ⟨by simp,fn',a.tmps,s.size,s.slot,by rw[<-World.size_alloc w (.deferred (some []))];exact heap_alloc_new _ _⟩
   exact this
  refine QB ((sG hf hbd (h (w.heap.size+1) w.heap.size _ _ (IQ hn (by simpa using hm)) t2)).mono ?_);intro e w' he;exact he _ ⟨by simp[Vk,s.defers],s.size,s.slot⟩
theorem OD {f:Func} {b:Exit} {v:Value} {l D i:Nat} {R:TK} (e:b = .ret∨b = .normal) (j:M[i]? = some (Lp l R .ready none)) (q:HM P c m σ' M L f v) (h:J c ⟨n.sz,Vk D::n.ds⟩ σ (M.set i (Lp l R .exhausted none)) L (Q .normal)) (d:m.ds=[]:=by rfl):
  J c m σ' M L (gW P f (TL P n σ l D Q) b):=λa w s t=>by
 refine body_end e (s.defers.trans d) (q a w s t) λo r=> ?_;obtain⟨F,u,p,k,x,y,g⟩:=t.res j;exact⟨none,_,run_endLoop g (by simp),h o _ r (t.putLp j g)⟩
theorem Wz {f:Func} {b:Exit} {v:Value} {l D i:Nat} {R:TK} (e:b = .ret∨b = .normal) (j:M[i]? = some (Lp l R .done (some .ret))) (q:HM P c m σ' M L f v) (h:J c ⟨n.sz,Vk D::n.ds⟩ σ (M.set i (Lp l R .exhausted (some .ret))) L (Q .ret)) (d:m.ds=[]:=by rfl):
  J c m σ' M L (gW P f (TL P n σ l D Q) b):=λa w s t=>by
 refine body_end e (s.defers.trans d) (q a w s t) λo r=> ?_;obtain⟨F,u,p,k,x,y,g⟩:=t.res j;exact⟨some .ret,_,run_endLoop g (by simp),wpIn_ret (h o _ r (t.putLp j g))⟩
def To (P:Program) (l:Nat) (G:Act->World->Prop) (a:Act) (w:World):Prop:=∃b,(Instr.beginRound l).run P w = .ok () b∧G a b
theorem KX {l i:Nat} {R:TK} {b:Option Code} (e:M[i]? = some (Lp l R .ready b)) (h:J c n σ (M.set i (Lp l R .busy b)) L G):J c n σ M L (To P l G):=λa w s t=>by
 obtain⟨F,j,g,f,k,o,d⟩:=t.res e;exact⟨_,run_beginRound d Z,h a _ s (t.putLp e d)⟩
def TM (n:Sz) (σ:Fr) (d:Nat) (K:Act->World->Prop) (e:Ending) (w:World):Prop:=∃v,e = .returned v∧∀a,Es n ((d,v)::σ) a->K a w
theorem CB {l i d:Nat} {R:TK} {b:Option Code} (f:M[i]? = some (Lp l R .busy b)) (h:J c m ((d,.bool true)::σ') (M.set i (Lp l R .ready none)) L K):J c n σ M L (roundPost P l (TM m σ' d K) .normal):=λa w s t=>by
 obtain⟨F,p,k,g,q,r,e⟩:=t.res f;exact⟨_,_,run_endRound none e,_,rfl,λj o=>h j _ o (t.putLp f e)⟩
theorem TA {l i d:Nat} {R:TK} {b:Option Code} (f:M[i]? = some (Lp l R .busy b)) (h:J c m ((d,.bool false)::σ') (M.set i (Lp l R .done (some .ret))) L K):J c n σ M L (roundPost P l (TM m σ' d K) .ret):=λa w s t=>by
 obtain⟨F,p,k,g,q,r,e⟩:=t.res f;exact⟨_,_,run_endRound (some .ret) e,_,rfl,λj o=>h j _ o (t.putLp f e)⟩
def EI:List Tmp->List Value->Fr->Fr
 |t::ts,v::vs,σ=>EI ts vs ((t,v)::σ)
 |_,_,σ=>σ
theorem IN:∀(d:List Tmp) (f:List Value) (a:Array Value) (σ:Fr) (k:Nat),a.size=k->d.all (λt=>Nat.blt t k)=true->(∀t v,lk σ t=some v->a[t]? = some v)->
  ((d.zip f).foldl (λa (x:Tmp×Value)=>a.setIfInBounds x.1 x.2) a).size=k∧∀t v,lk (EI d f σ) t=some v->((d.zip f).foldl (λa (x:Tmp×Value)=>a.setIfInBounds x.1 x.2) a)[t]? = some v
 | [],_,a,σ,k,h1,_,h3=>by simpa [EI]using ⟨h1,h3⟩
 |_::_,[],a,σ,k,h1,_,h3=>by simpa [EI]using ⟨h1,h3⟩
 | p :: d, x :: f, a, σ, k, h1, h2, h3 => by
  simp only[List.all_cons,Bool.and_eq_true]at h2;have g:p<k:=by simpa [Nat.blt_eq]using h2.1
  simp only[List.zip_cons_cons,List.foldl_cons,EI];refine IN d f _ _ k (by simp[h1]) h2.2 λt v b=> ?_;simp only[lk]at b;by_cases e:t=p
  ·subst e;simp at b;subst b;simp[h1,g]
  ·rw[m_ e]at b;simp only[cond_false]at b;rw[Array.getElem?_setIfInBounds_ne (Ne.symm e)];exact h3 t v b
theorem WB {f:Array Oper} {b:List Oper} {t:Tmp} {z:List Operand} {g:List Value} {o:Array TypeId} {d:Nat} {B:TypeId} {y:String} {k:Array Edge} {l i:Nat} {R:TK} {j:List Tmp} (U:lk σ t=some (rD l)) (W:z.map (ev σ)=g.map some) (T:M[i]? = some (Lp l R .ready none)) (r:R.ps=j.toArray) (q:g.length=j.length) (p:j.all (λt=>Nat.blt t R.n)=true) (S:Nat.blt d n.sz=true)
  (h:J c ⟨R.n,[]⟩ (EI j g R.σ) M L (R.assign.wpr (some l) P (Exit.then (To P l (R.body.wpr (some l) P (roundPost P l (TM n σ d (wpList P f Q b))))) (λ_ _ _=>False)))):
  J c n σ M L (wpList P f Q (⟨some d,.call ⟨.value (.tmp t),z.toArray,o⟩,B,y,k,none⟩::b)):=λa w s A=>by
 obtain⟨F,h1,H,tmps,I,N,O⟩:=A.res T;have e:=evs s W;have C:a.eval (.tmp t)=rD l:=s.eval (x:= .tmp t) U;have X:=run_yield (P:=P) (args:=g.toArray) O (by simp[r,q]);have u:(execOp a.eval ⟨some d,.call ⟨.value (.tmp t),z.toArray,o⟩,B,y,k,none⟩).run P w=(Instr.yield l g.toArray).run P w:=by
  simp[execOp,resolve,C,rD,Deferred.ofValue,invoke,e]
 unfold wpList;rw[if_pos (show Region.wanted _ _=true from rfl)];refine .inr ⟨_,_,_,_,_,_,u.trans X,?_⟩;refine RoundIn.mono (R:=TM n σ d (wpList P f Q b)) (roundIn_of_wpIn (F:=FR none) trivial ?_) ?_
 ·obtain⟨D,E⟩:=IN j g tmps R.σ R.n I p N;have:=h {tmps:=(j.zip g).foldl (λtmps (x:Tmp×Value)=>tmps.setIfInBounds x.1 x.2) tmps,defers:=[]} w ⟨rfl,D,E⟩ A;simp only[r,List.zip_toArray,List.foldl_toArray];exact this
 ·rintro e Y ⟨v,rfl,V⟩;exact⟨v,rfl,V _ (s.put d v S)⟩
theorem La {g:Operand} {ps:Array Tmp} {assign body:Code} {f:FuncId} {fn:Func} {code:Code} {cs:List Value} {k:Nat} (hb:aR P f) (hx:ev σ g=some (.func (.func f) #[] cs.toArray)) (hf:P.funcs[f]? = some fn) (hbd:fn.body=some code) (hn:fn.ntmps=k) (hm:Nat.ble (cs.length+1) k=true)
  (h:∀(l D:Nat) (R:TK),R.n=n.sz∧R.σ=σ∧R.ps=ps∧R.assign=assign∧R.body=body->J c ⟨k,[]⟩ (wX 0 (rD l::cs)) (Lp l R .ready none::Dfr D::M) L (code.wpr none P (gW P fn (TL P n σ l D Q)))):
  J c n σ M L ((Code.rangeFunc g ps assign body).wpr none P Q):=Mu hb hx hf hbd hn hm λl D=>h l D _ ⟨rfl,rfl,rfl,rfl,rfl⟩
theorem Ii {j:Array Oper} {e:List Oper} {t:Tmp} {u:List Operand} {us:List Value} {r:Array TypeId} {d:Nat} {B:TypeId} {s:String} {q:Array Edge} {l i k:Nat} {R:TK} {p:List Tmp} {o:Fr} {a b:Code} (w:R.n=k∧R.σ=o∧R.ps=p.toArray∧R.assign=a∧R.body=b) (z:lk σ t=some (rD l)) (A:u.map (ev σ)=us.map some) (y:M[i]? = some (Lp l R .ready none)) (g:us.length=p.length) (f:p.all (λt=>Nat.blt t k)=true) (x:Nat.blt d n.sz=true)
  (h:J c ⟨k,[]⟩ (EI p us o) M L (a.wpr (some l) P (Exit.then (To P l (b.wpr (some l) P (roundPost P l (TM n σ d (wpList P j Q e))))) (λ_ _ _=>False)))):
  J c n σ M L (wpList P j Q (⟨some d,.call ⟨.value (.tmp t),u.toArray,r⟩,B,s,q,none⟩::e)):=by
 obtain⟨rfl,rfl,v,rfl,rfl⟩:=w;exact WB z A y v g f x h
end
def Hr (Ds:List Nat):List Deferred:=Ds.map Vk
def Hy (Ds:List Nat):aY where
 p w F:=Ds.Nodup∧∀D∈Ds,F D∧w.heap[D]? = some (.deferred (some []))
 mono:=fun⟨c,a⟩ h=>⟨c,λD b=>by
  obtain⟨d,e⟩:=h D (a D b).1 (Array.getElem?_eq_some_iff.1 (a D b).2).1;exact⟨d,by rw[e];exact(a D b).2⟩⟩
section
variable {P:Program} {rd:Option Nat} {c:uM} {n m:Sz} {σ σ':Fr} {M L:List aY} {Q:Exit->Act->World->Prop} {K G:Act->World->Prop}
theorem Io:rQ M L (Hy []::M) L:=rQ.add λ_=>⟨List.nodup_nil,by simp⟩
theorem MN (i j:Nat) {D:Nat} {e:List Nat} (d:i≠j) (l:M[i]? = some (Hy e)) (o:M[j]? = some (Dfr D)):rQ M L ((M.set i (Hy (D::e))).eraseIdx j) L:=λc w t=>
 t.merge i j d l o (by
  rintro w q r ⟨g,b⟩ ⟨f,h⟩ k;refine⟨List.nodup_cons.2 ⟨λp=>k D (b D p).1 f,g⟩,λE a=> ?_⟩
  rcases List.mem_cons.1 a with rfl|a
  ·exact⟨.inr f,h⟩
  ·exact⟨.inl (b E a).1,(b E a).2⟩)
theorem Bv {g:Operand} {ps:Array Tmp} {assign body:Code} {f:FuncId} {fn:Func} {code:Code} {cs:List Value} {k i s:Nat} (Ds:List Nat) (hi:M[i]? = some (Hy Ds)) (hb:aR P f) (hx:ev σ g=some (.func (.func f) #[] cs.toArray)) (hf:P.funcs[f]? = some fn) (hbd:fn.body=some code) (hn:fn.ntmps=k) (hm:Nat.ble (cs.length+1) k=true)
  (h:∀(l D:Nat) (R:TK),R.n=s∧R.σ=σ∧R.ps=ps∧R.assign=assign∧R.body=body->J c ⟨k,[]⟩ (wX 0 (rD l::cs)) (Lp l R .ready none::M.set i (Hy (D::Ds))) L (code.wpr none P (gW P fn (TL P ⟨s,Hr Ds⟩ σ l D Q)))):
  J c ⟨s,Hr Ds⟩ σ M L ((Code.rangeFunc g ps assign body).wpr none P Q):=La hb hx hf hbd hn hm λl D R hR=>
 jK (MN (i+2) 1 (by omega) hi Z) (h l D R hR)
theorem qA {o:Func} {R:Ending->World->Prop} {f:Exit} {i k:Nat} (b:f = .ret∨f = .normal):∀{Ds:List Nat} {M:List aY},M[i]? = some (Hy Ds)->J c ⟨k,[]⟩ σ (M.set i (Hy [])) L (gW P o R f)->J c ⟨k,Hr Ds⟩ σ M L (gW P o R f)
 | [], M, hi, h => by
  have:M.set i (Hy [])=M:=by
   apply List.ext_getElem?;intro j;by_cases e:i=j
   ·subst e;rw[hi];simp[(List.getElem?_eq_some_iff.1 hi).1]
   ·simp[List.getElem?_set_ne e]
  rw[this]at h;exact h
 | D :: Ds, M, hi, h => λa w s t => by
  obtain⟨F,v,q⟩:=t.res hi;have u:St c (M.set i (Hy Ds)) L (w.putObj D (.deferred none)):=by
   refine t.upd hi Z Z Z (by simp) λF d _=>⟨λk _ r=> ?_,F,?_,λ_ h=> .inl h⟩
   ·exact World.putObj_heap_other (λe=>r (e▸(d.2 D (by simp)).1))
   ·obtain⟨p,d⟩:=d;refine⟨(List.nodup_cons.1 p).2,λE g=>⟨(d E (by simp[g])).1,?_⟩⟩
    rw[World.putObj_heap_other (λe=>(List.nodup_cons.1 p).1 (by subst e;exact g))];exact(d E (by simp[g])).2
  refine Sm b s.defers (q D (by simp)).2 ?_;have l:(M.set i (Hy Ds))[i]? = some (Hy Ds):=by simp[(List.getElem?_eq_some_iff.1 hi).1]
  have:=qA b l (by rw[List.set_set];exact h) {tmps:=a.tmps,defers:=Hr Ds} _ ⟨rfl,s.size,s.slot⟩ u;rcases b with rfl|rfl<;>exact this
def acl {A B:Type} (c:uM) (f:A->B->Sz) (C:A->Prop) (b:A->B->Fr) (e d:A->B->List aY) (a:Act) (w:World):Prop:=∃x y,C x∧Es (f x y) (b x y) a∧St c (e x y) (d x y) w
theorem K_ {A B:Type} {x:Code} (h:A->B->Sz) (C:A->Prop) (d:A->B->Fr) (g f:A->B->List aY) (j:J c n σ M L (x.wpr rd P (Exit.then (acl c h C d g f) Q))) (k:∀a b,C a->J c (h a b) (d a b) (g a b) (f a b) K):
  J c n σ M L (x.wpr rd P (Exit.then K Q)):=λa w s t=>FX (λe i u q=>by
 cases e with
 |normal=>obtain⟨z,y,o,p,r⟩:=q;exact k z y o i u p r
 |exit id=>exact q
 |goto l=>exact q
 |ret=>exact q
 |panic v=>exact q
 |outgrown=>exact q) (j a w s t)
theorem EY {A B:Type} {e:A->B->Sz} {C:A->Prop} {a:A->B->Fr} {d b:A->B->List aY} (x:A) (y:B) (i:n=e x y) (f:C x) (j:xU σ (a x y)) (h:bA M (d x y)) (g:aE [] L (b x y)):J c n σ M L (acl c e C a d b):=
 λ_ _ s t=>⟨x,y,f,i▸s.weak j,t.weakE h g⟩
end
def Gb (b:Nat) (cs:List Value):aY where
 p w S:=S b∧∃T,w.heap[b]? = some (.cells cs.toArray T (0,0))
 mono:=fun⟨c,T,a⟩ h=>by
  obtain⟨d,e⟩:=h b c (Array.getElem?_eq_some_iff.1 a).1;exact⟨d,T,by rw[e];exact a⟩
section
variable {P:Program} {c:uM} {n:Sz} {σ:Fr} {M L:List aY} {d:Option Tmp} {ty:TypeId} {pos:String} {aft:Array Edge} {g:Option (Nat×Bool)} {α:Type} {e:dD α}
theorem MS [cL P] {T E:TypeId} {u:IntKind} {k v A f B:Nat} {z C:Value} {l:TypeDesc} {x y:Operand} {b:Nat} {i:Int} (q:ev σ x=some (.pointer (some ⟨b,0,none⟩))) (r:ev σ y=some (.int u i))
  (p:cL.tab P T=some ⟨.array k E,v,A,z⟩) (o:cL.tab P E=some ⟨l,f,B,C⟩) (m:(f==0)=false) (h:0<=i∧i<(k:Int)):
  Y P c n σ M L ⟨d,.indexAddr T x y,ty,pos,aft,g⟩ (.pointer (some ⟨b,i.toNat*f,none⟩)):=λa w s t=>by
 have j:f≠0:=by simpa using m
 simp[execOp,s.eval q,s.eval r,Instr.indexAt,asIntOf,(cL.ok p).run_und w,h,Instr.sureAddr,(cL.ok o).run_size w,j,eO]
theorem Se [cL P] [Inhabited α] {T:TypeId} {E:Nat} {z:Value} {o:TypeDesc} {x:Operand} {b k:Nat} {i:Int} {f:List α} {u:Value} (q:ev σ x=some (.pointer (some ⟨b,i.toNat*1,none⟩)))
  (y:aF M L (Gb b (cellsOf e f))) (A:cL.tab P T=some ⟨o,1,E,z⟩) (B:wT o=false) (C:e.sz=1) (D:(e.enc (at' f i))=[u]) (h:(0<=i∧i<(k:Int))∧f.length=k):
  Y P c n σ M L ⟨d,.load T x,ty,pos,aft,g⟩ u:=λa w s t=>by
 obtain⟨F,j,r,l⟩:=y.st t;have v:(bX b (cellsOf e f) r).p w F:=⟨j,l⟩
 have m:=uW e f i.toNat (at' f i) (lB h.1.1 (by omega)) 0 u (by rw[D];rfl);rw[C,Nat.add_zero]at m;rw[Nat.mul_one]at q m;simp[execOp,s.eval q,xD (cL.ok A) B (bX.cell v m)]
end
end Go.Sx
namespace Go.Sx
section
variable {P:Program} {M L:List aY} {α β γ:Type} {r:eG α} {s:eG γ} {q:eG β}
def eG.Deep (r:eG α) (q:eG β) (f:α->Value×List β):Prop:=∀{w S es x},r.R w S es x->Ld q w S (f x).1 (f x).2
theorem CF (q:eG β):(eG.sl q).Deep q (λx=>x):=λh=>h.2
theorem Sb {f:α->Value×List β} (h:r.Deep q f):(r.pair s).Deep q (λx=>f x.1):=by
 rintro w S d x ⟨b,c,rfl,a,_⟩;exact h a
theorem Dp {f:α->Value×List β} (h:r.Deep q f):(s.pair r).Deep q (λx=>f x.2):=by
 rintro w S d x ⟨b,c,rfl,_,a⟩;exact h a
theorem uT [Inhabited α] {v:Value} {a:List α} {i:Int} {f:α->Value×List β} (h:aF M L (Sl r v a)) (d:r.Deep q f) (b:0<=i) (c:i<a.length):aF M L (Sl q (f (at' a i)).1 (f (at' a i)).2):=h.mono λ{w U} hs=>by
 obtain⟨g,e,_⟩:=sl_cell hs (lB b c);exact d e
def Iz (s:ByteArray):List Int:=s.data.toList.map λb=>(b.toNat:Int)
theorem BD [cL P] {c:uM} {n:Sz} {l:Fr} {d:Option Tmp} {H:TypeId} {e:String} {b:Array Edge} {g:Option (Nat×Bool)} {T:TypeId} {F G:Nat} {z:Value} {x y:Operand} {s:ByteArray} {f:List Int} {k:IntKind} {i:Int} (D:ev l x=some (.string s)) (E:ev l y=some (.int k i)) (u:cL.tab P T=some ⟨.string,F,G,z⟩) (A:Iz s=f) (h:0<=i∧i<f.length):
  Y P c n l M L ⟨d,.index T x y,H,e,b,g⟩ (.int .u8 (at' f i)):=λa w p t=>by
 subst A;obtain⟨I,m⟩:=h;obtain⟨j,rfl⟩:∃j:Nat,i=(j:Int):=⟨i.toNat,by omega⟩
 have o:j<s.data.toList.length:=by unfold Iz at m;simp at m ⊢;omega
 have C:j<s.size:=by have:=Lib.size_eq s;simp at o;omega
 have B:s[j]? = some (s.data.toList[j]):=by
  rw[getElem?_pos s j C];rfl
 have v:at' (Iz s) (j:Int)=((s.data.toList[j]).toNat:Int):=by
  unfold at' Iz;simp[List.getD_eq_getElem?_getD,List.getElem?_eq_getElem o]
 rw[v];simp[execOp,p.eval D,p.eval E,Instr.index,asIntOf,(cL.ok u).run_und w,B]
theorem OQ [cL P] {c:uM} {n:Sz} {j:Fr} {d:Option Tmp} {F:TypeId} {i:String} {e:Array Edge} {g:Option (Nat×Bool)} {T E:TypeId} {A B C D m b:Nat} {z G:Value} {o:TypeDesc} {x l:Operand} {k:Int} (y:ev j x=some (.pointer (some ⟨b,0,none⟩))) (f:ev j l=some (.int .i64 k))
  (v:cL.tab P T=some ⟨.array m E,A,B,z⟩) (u:cL.tab P E=some ⟨o,C,D,G⟩) {q:Int} (h:0<=k∧k<=((m:Nat):Int)∧k<=q):Y P c n j M L ⟨d,.slice T x none (some l) none,F,i,e,g⟩ (.slice (some ⟨b,0,none⟩) k.toNat m):=λa w s t=>by
 have p:0<=k∧k<=(m:Int):=⟨h.1,h.2.1⟩
 simp[execOp,s.eval y,s.eval f,Instr.sliceAt,Instr.slice,(cL.ok v).run_und w,Instr.sliceBounds,Instr.sliceBound,asIntOf,(cL.ok u).run_size w,p,asAddr,Addr.add,Instr.sureAddr]
theorem TE {e:dD α} {i b T m:Nat} {k:Int} {a:List α} (t:M[i]? = some (bX b (cellsOf e a) T)) (c:e.Fits r) (h:0<=k∧k<=((m:Nat):Int)∧k<=(a.length:Int)) (p:m<=9223372036854775807):aF M L (Sl r (.slice (some ⟨b,0,none⟩) k.toNat m) (a.take k.toNat)):=λw S T U B f C v=>by
 have n:=f i _ t;have o:(a.take k.toNat).length=k.toNat:=by simp;omega
 refine⟨some ⟨b,0,none⟩,m,by rw[o],by rw[o];omega,.inr ⟨b,0,rfl,v _ _ n.1,λj x d=> ?_⟩⟩
 have l:a[j]? = some x:=by
  rw[List.getElem?_take]at d;split at d
  ·exact d
  ·cases d
 obtain⟨g,D,z,_⟩:=c;refine⟨e.enc x,λq u A=> ?_,z⟩
 have y:=uW e a _ _ l _ _ A;rw[g,Nat.zero_add];exact bX.cell n y
def eG.All (r:eG α) (n:Nat) (g:α->List Value):Prop:=r.sz=n∧∀{w S es x},r.R w S es x->es=g x
theorem OM {e:dD α} (h:e.Fits r):r.All e.sz e.enc:=⟨h.1,h.2.1⟩
theorem ON (q:eG β):(eG.sl q).All 1 (λx=>[x.1]):=⟨rfl,λh=>h.1⟩
theorem Lc {n m:Nat} {f:α->List Value} {g:γ->List Value} (h:r.All n f) (k:s.All m g):(r.pair s).All (n+m) (λx=>f x.1++g x.2):=⟨by show r.sz+s.sz=_;rw[h.1,k.1],by
 rintro w S e x ⟨c,d,rfl,a,b⟩;rw[h.2 a,k.2 b]⟩
theorem OP [cL P] [Inhabited α] {c:uM} {n:Sz} {B:Fr} {d:Option Tmp} {O:TypeId} {o:String} {k:Array Edge} {g:Option (Nat×Bool)} {T:TypeId} {N q m:Nat} {z:Value} {p:TypeDesc} {x:Operand} {v:Value} {i:Int} {e:List α} {cs:List Value} {f:α->List Value} (K:ev B x=some (Dt v (i.toNat*q))) (G:aF M L (Sl r v e)) (y:r.All m f) (l:f (at' e i)=cs)
  (E:cL.tab P T=some ⟨p,cs.length,N,z⟩) (F:wT p=true) (H:m=q) (h:0<=i∧i<e.length):Y P c n B M L ⟨d,.load T x,O,o,k,g⟩ (.agg cs.toArray):=λa w s t=>by
 obtain⟨C,D⟩:=h;obtain⟨S,h⟩:=G.st t;obtain⟨Q,I,b⟩:=sl_cell h (lB C D);have:=y.2 I;subst this l;rw[y.1,H]at b;have:=AD (w:=w) (A:=JC v (i.toNat*q)) (cs:=f (at' e i)) (cL.ok E) F Z (λj u J=>by rw[HQ];exact b j u J);simp[execOp,s.eval K,Dt,this]
end
end Go.Sx
namespace Go.Sx
open Go.RowKit
section
variable {P:Program} {c:uM} {n:Sz} {σ:Fr} {M L:List aY} {d:Option Tmp} {ty:TypeId} {pos:String} {aft:Array Edge} {g:Option (Nat×Bool)}
def aco (v:Value) (m:Nat):Prop:=∃a e,v = .slice a m e∧(m=0∨∃b f,a=some ⟨b,f,none⟩)
theorem Know.len {f:Type} {r:eG f} {v:Value} {xs:List f} (j:aF M L (Sl r v xs)):∀c w,St c M L w->aco v xs.length:=λc w t=>by
 obtain⟨S,i,cap,k,_,h⟩:=j.st t;exact⟨i,cap,k,h.imp (λh=>by simp[h]) fun⟨b,a,e,_⟩=>⟨b,a,e⟩⟩
theorem Iq [cL P] {T E:TypeId} {B C k D m:Nat} {z F:Value} {o:TypeDesc} {x y:Operand} {v:Value} {i:Int} (u:ev σ x=some v) (A:ev σ y=some (.int .i64 i)) (f:aco v m)
  (s:cL.tab P T=some ⟨.slice E,B,C,z⟩) (r:cL.tab P E=some ⟨o,k,D,F⟩) (h:0<=i∧i<(m:Int)):Y P c n σ M L ⟨d,.indexAddr T x y,ty,pos,aft,g⟩ (Dt v (i.toNat*k)):=λa w l t=>by
 obtain⟨G,e,rfl,f⟩:=f;obtain⟨p,q⟩:=h;rcases f with rfl|⟨b,j,rfl⟩
 ·omega
 ·simp[execOp,l.eval u,l.eval A,GQ w (cL.ok s) Z (cL.ok r) b j _ e i p q]
theorem Il [cL P] (i:Nat) {T j:TypeId} {H m o b:Nat} {z:Value} {q:TypeDesc} {x y:Operand} {cs e us:List Value} {u:Value} (E:ev σ x=some (.pointer (some ⟨b,o,none⟩))) (G:ev σ y=some u) (l:u.cells=us.toArray) (B:us.length=m)
  (r:us.all one=true) (p:M[i]? = some (bX b cs j)) (A:cL.tab P T=some ⟨q,m,H,z⟩) (C:Nat.ble (o+m) cs.length=true) (k:cs.take o++us++cs.drop (o+m)=e):
  aL P c n σ M L ⟨none,.store T x y,ty,pos,aft,none⟩ (λ_:Unit=>undef) (λ_=>M.set i (bX b e j)) (λ_=>L):=λa w s t=>by
 subst B k;obtain⟨F,v⟩:=t.res p;have D:o+us.length<=cs.length:=by simpa using C
 have h:=run_storeCells_at P b o j us 0 cs.toArray w v.2 (by simp;omega) (λu l=>oU (List.all_eq_true.1 r u l));simp only[Nat.add_zero]at h;have f:(execOp a.eval ⟨none,.store T x y,ty,pos,aft,none⟩).run P w = .ok .skip (w.setRow b (cs.take o++us++cs.drop (o+us.length)).toArray):=by
  simp[execOp,s.eval E,s.eval G,Instr.storeAt,Instr.sureAddr,storeVar,l,(cL.ok A).run_size w,h]
 simp only[Oper.wp,f,Oper.upon];exact⟨(),trivial,t.fill p⟩
theorem Jk {a:Type} [Inhabited a] (l:List a) (k:Int) (h:k.toNat<l.length) (b:0<=k):l.set k.toNat (at' l k)=l:=by
 have:=lB (xs:=l) b (by omega);refine List.ext_getElem? λi=> ?_;by_cases e:k.toNat=i
 ·subst e;rw[List.getElem?_set_self h,this]
 ·rw[List.getElem?_set_ne e]
theorem zK [cL P] {l:Type} [Inhabited l] {e:dD l} (j:Nat) {T:TypeId} {Q m o q:Nat} {z:Value} {C:TypeDesc} {x y:Operand} {u:Value} {us:List Value} {i k:Int} {vs:List Value} {b:List (List l)} (f:l) (A:0<=k∧k<b.length) (h:0<=i∧i<(at' b k).length) (N:ev σ x=some (Dt (at' vs k) (i.toNat*q+o))) (O:ev σ y=some u)
  (v:M[j]? = some (jH e vs b)) (I:e.sz=q) (K:u.cells=us.toArray) (G:us.length=m) (H:Nat.ble (o+m) q=true) (B:e.enc f=(e.enc (at' (at' b k) i)).take o++us++(e.enc (at' (at' b k) i)).drop (o+m)) (p:us.all one=true) (D:cL.tab P T=some ⟨C,m,Q,z⟩):
  aL P c n σ M L ⟨none,.store T x y,ty,pos,aft,none⟩ (λ_:Unit=>undef) (λ_=>M.set j (jH e vs (b.set k.toNat ((at' b k).set i.toNat f)))) (λ_=>L):=λa w s t=>by
 have U:=cO j v c w t;have F:j<M.length:=(List.getElem?_eq_some_iff.1 v).1;refine nN (λS R ⟨x,E,J⟩=>⟨x,E,?_⟩) (MA 0 f h N O Z I K G H B p D a w s (MP j v A c w t));have r:=ML (j+1) 0 (u:=at' vs k) (k:=k) (vs:=vs) (xss:=b) (ys:=(at' b k).set i.toNat f) (e:=e) Z (by simp[F]) Z (by simpa using A) c R J;simp only[List.set_cons_zero,List.set_cons_succ,List.eraseIdx_cons_zero,List.set_set]at r;rw[Jk vs k (by omega) A.1]at r;exact r
end
theorem bA.ix {M a:List aY} (l:List Nat) (c:decide l.Nodup=true) (h:l.map (λi=>M[i]?)=a.map some):bA M a:=by
 have c:l.Nodup:=of_decide_eq_true c;have k:l.length=a.length:=by simpa using congrArg List.length h
 refine⟨λi=>l.getD i 0,λi j b n e=> ?_,λi m d=> ?_⟩
 ·have f:i<l.length:=by omega
  have g:j<l.length:=by omega
  simp only[List.getD_eq_getElem?_getD,List.getElem?_eq_getElem f,List.getElem?_eq_getElem g,Option.getD_some]at e;exact(List.getElem_inj c).1 e
 ·have b:i<l.length:=by rw[k];exact(List.getElem?_eq_some_iff.1 d).1
  have:=congrArg (λq=>q[i]?) h;simp only[List.getElem?_map,List.getElem?_eq_getElem b,d,Option.map_some,Option.some.injEq]at this;simpa [List.getD_eq_getElem?_getD,List.getElem?_eq_getElem b]using this
def dD.fn:dD Nat:=⟨1,Nat.one_pos,λf=>[.func (.func f) #[] #[]],λ_=>rfl⟩
def eG.fn:eG Nat:=⟨1,Nat.one_pos,λ_ _ cs x=>cs=[.func (.func x) #[] #[]],λh=>by simp[h],λh _=>h⟩
theorem Mn:dD.fn.Fits eG.fn:=⟨rfl,λh=>h,rfl,λ_=>rfl⟩
section
variable {P:Program} {rd:Option Nat} {c:uM} {n:Sz} {σ:Fr} {M L:List aY} {Q:Exit->Act->World->Prop} {ops:Array Oper} {rest:List Oper} {d:Nat} {ty:TypeId} {pos:String} {aft:Array Edge} {x y:Operand} {v:Value} {K:Act->World->Prop}
abbrev vS (x:ByteArray):Value:= .string x
abbrev vB (x:Bool):Value:= .bool x
theorem eH {a:Type} {p G:Prop} {_:Decidable p} {u:Option a} {r:a} (h:ck p u=some r) (k:p->u=some r->G):G:=k (QD h).1 (QD h).2
theorem fE {a b:Type} {G:Prop} {u:Option a} {f:a->Option b} {r:b} (h:u.bind f=some r) (k:∀y,u=some y->f y=some r->G):G:=by
  obtain⟨y,e,g⟩:=bnd h;exact k y e g
theorem mK (l:List Nat) {a:List aY} (h:l.map (L[·]?)=a.map some):aE M L a:=λf b=>by
  have g:some f∈l.map (L[·]?):=h▸List.mem_map_of_mem b;obtain⟨j,_,e⟩:=List.mem_map.1 g;exact aF.fact j e
theorem yX.ix (l:List Nat) {a:List aY} (h:l.map (L[·]?)=a.map some):yX L a:=λf b=>by
  have g:some f∈l.map (L[·]?):=h▸List.mem_map_of_mem b;obtain⟨j,_,e⟩:=List.mem_map.1 g;exact List.mem_of_getElem? e
theorem nW {f:aY} (i:Nat) (h:L[i]? = some f):yX L [f]:=yX.cons (List.mem_of_getElem? h) yX.nil
/-- which of the early loads must still hold,with the numbers of what they have read -/
def bsW (A:Nat->Bool):List (List Nat×List Nat)->List (Nat×List aY×List aY)->List (List Nat×List Nat×List aY×List aY)
  |_,[]=>[]
  |q,(j,Mx,Lx)::B=>bif A j||(Mx.isEmpty&&Lx.isEmpty)then bsW A q B else((q.headD ([],[])).1,(q.headD ([],[])).2,Mx,Lx)::bsW A q.tail B
theorem mP {A:Nat->Bool} (q:List (List Nat×List Nat)) {B:List (Nat×List aY×List aY)} (h:(bsW A q B).map (λz=>(decide z.1.Nodup,z.1.map (M[·]?),z.2.1.map (L[·]?)))=(bsW A q B).map (λz=>(true,z.2.2.1.map some,z.2.2.2.map some))):AF A M L B:=by
  induction B generalizing q with
  |nil=>exact AF.z
  | cons b B ih =>
    obtain⟨j,k,i⟩:=b;cases a:A j with
    |true=>exact AF.b a (ih q (by simpa [bsW,a]using h))
    | false =>
      cases g:(k.isEmpty&&i.isEmpty)with
      | true =>
        obtain⟨e,f⟩:=Bool.and_eq_true_iff.1 g;rw[List.isEmpty_iff]at e f;subst e;subst f;exact AF.h bA.nil yX.nil (ih q (by simpa [bsW,a]using h))
      | false =>
        simp only[bsW,a,g,Bool.or_self,cond_false,List.map_cons,List.cons.injEq,Prod.mk.injEq]at h;exact AF.h (bA.ix _ h.1.1 h.1.2.1) (yX.ix _ h.1.2.2) (ih q.tail h.2)
def hkB (A:Nat->Bool):List (Nat×List aY×List aY)->Bool
  | []=>true
  |(j,_,_)::H=>bif A j then hkB A H else false
theorem hkI {A:Nat->Bool} {f e:List aY} {H:List (Nat×List aY×List aY)} (h:hkB A H=true):aO A f e H:=by
  induction H with
  |nil=>exact aO.z
  | cons b B ih =>
    obtain⟨j,_,_⟩:=b;cases a:A j with
    |false=>simp[hkB,a]at h
    |true=>exact aO.b a (ih (by simpa [hkB,a]using h))
theorem hkN {A:Nat->Bool} {H:List (Nat×List aY×List aY)}:aO A [] [] H:=by
  induction H with
  |nil=>exact aO.z
  |cons b B a=>exact aO.h bA.nil yX.nil a
theorem eR {T:Operand} (h:(ev σ T,ev σ x,Nat.blt d n.sz)=(some (.bool true),some v,true)) (k:J c n ((d,v)::σ) M L (wpList P ops Q rest)):J c n σ M L (wpList P ops Q (⟨some d,.pick T x y,ty,pos,aft,none⟩::rest)):=by
  simp only[Prod.mk.injEq]at h;exact aD (Qh h.1 h.2.1) h.2.2 k
theorem eY {T:Operand} (h:(ev σ T,ev σ y,Nat.blt d n.sz)=(some (.bool false),some v,true)) (k:J c n ((d,v)::σ) M L (wpList P ops Q rest)):J c n σ M L (wpList P ops Q (⟨some d,.pick T x y,ty,pos,aft,none⟩::rest)):=by
  simp only[Prod.mk.injEq]at h;exact aD (Qg h.1 h.2.1) h.2.2 k
theorem gA {vs:List Value} {i:Nat} (h:(ev σ x,vs[i]?,Nat.blt d n.sz)=(some (.tuple vs.toArray),some v,true)) (k:J c n ((d,v)::σ) M L (wpList P ops Q rest)):J c n σ M L (wpList P ops Q (⟨some d,.extract x i,ty,pos,aft,none⟩::rest)):=by
  simp only[Prod.mk.injEq]at h;exact aD (fN h.1 h.2.1) h.2.2 k
theorem p_ {t a:TypeId} {i:IntKind} {p q:Int} (h:(ev σ x,ev σ y,Nat.blt d n.sz)=(some (.int i p),some (.int i q),true)) (k:J c n ((d,.bool (decide (p≠q)))::σ) M L (wpList P ops Q rest)):J c n σ M L (wpList P ops Q (⟨some d,.binOp .neq t x y a,ty,pos,aft,none⟩::rest)):=by
  simp only[Prod.mk.injEq]at h;exact aD (Kd h.1 h.2.1) h.2.2 k
theorem xZ {t a:TypeId} {i:IntKind} {p q:Int} (h:(ev σ x,ev σ y,Nat.blt d n.sz)=(some (.int i p),some (.int i q),true)) (k:J c n ((d,.int i (dA i p q))::σ) M L (wpList P ops Q rest)):J c n σ M L (wpList P ops Q (⟨some d,.binOp .and t x y a,ty,pos,aft,none⟩::rest)):=by
  simp only[Prod.mk.injEq]at h;exact aD (Kb h.1 h.2.1) h.2.2 k
theorem jS [cL P] {b:Type} {r:eG b} {T E:TypeId} {f g:Nat} {z:Value} {a:List b} (e:aF M L (Sl r v a)) (h:(ev σ x,cL.tab P T,Nat.blt d n.sz)=(some v,some ⟨.slice E,f,g,z⟩,true)) (k:J c n ((d,.int .i64 a.length)::σ) M L (wpList P ops Q rest)):J c n σ M L (wpList P ops Q (⟨some d,.call ⟨.builtin .len,#[x],#[T]⟩,ty,pos,aft,none⟩::rest)):=by
  simp only[Prod.mk.injEq]at h;exact aD (kR h.1 e h.2.1) h.2.2 k
variable {l:List Oper} {m:List Nat} {k0:Nat} {H Bs:List (Nat×List aY×List aY)} {rs:List Nat}
theorem iB {i a:Nat} {b:Op} (f:l[i]? = some ⟨some a,b,ty,pos,aft,none⟩) (k:Y P c n σ [] [] ⟨some a,b,ty,pos,aft,none⟩ v)
    (h:JR c n ((a,v)::σ) M L H ((i,[],[])::Bs) (RW P l.toArray Q (before m) (cK l) k0 rs))
    (g:Nat.blt i k0=true:=by exact rfl) (j:eB b=false:=by exact rfl) (e:Nat.blt a n.sz=true:=by exact rfl):JR c n σ M L H Bs (RW P l.toArray Q (before m) (cK l) k0 (i::rs)):=bL f bA.nil yX.nil k hkN h g j e
end
end Go.Sx
namespace Go.Sx
abbrev aS:=List Int
abbrev fD:=List (Int×Int)
abbrev bE:=List aS
abbrev fL:=List fD
abbrev G_:=(ByteArray×(List (ByteArray×Int×Int×Int×Int×Int))×(List (ByteArray×(Value×fD)×(Value×List (Int×(Value×fD))))))×((ByteArray×(List (ByteArray×Int×Int×Int×Int×Int))×(List (ByteArray×(Value×fD)×(Value×List (Int×(Value×fD))))))×(aS×fL)×Int×bE)×fL
abbrev yB:=ByteArray×(List (ByteArray×Int×Int×Int×Int×Int))×(List (ByteArray×(Value×fD)×(Value×List (Int×(Value×fD)))))
abbrev Mh:=((ByteArray×(List (ByteArray×Int×Int×Int×Int×Int))×(List (ByteArray×(Value×fD)×(Value×List (Int×(Value×fD))))))×(aS×fL)×Int×bE)×bE×Int×fD
abbrev Ca:=((aS×aS×bE×(Int×Int×Int×Int×Int))×Int)
abbrev Tf:=(ByteArray×(List (ByteArray×Int×Int×Int×Int×Int))×(List (ByteArray×(Value×fD)×(Value×List (Int×(Value×fD))))))×(aS×fL)×Int×bE
abbrev mV:=List (Value×fD)
abbrev dJ:=aS×fL
abbrev pA:=List (Value×aS)
abbrev AU:=Int×aS×aS×aS×Bool×Bool
abbrev YR:=(((ByteArray×(List (ByteArray×Int×Int×Int×Int×Int))×(List (ByteArray×(Value×fD)×(Value×List (Int×(Value×fD))))))×(aS×fL)×Int×bE)×bE×Int×fD)
abbrev dY:=(Int×Int)
abbrev dQ:=Int×Int
abbrev NZ:=ByteArray×List (ByteArray×Int×Int×Int×Int×Int)×List (fD×List (Int×fD))
abbrev gQ:=List Value
abbrev Dh:=ByteArray×Int×Int×Int×Int×Int
abbrev FW:=List (ByteArray×Int×Int×Int×Int×Int)
abbrev Hv:=Int×Int×Int×Int×Int×Int×aS×aS×bE
abbrev yC:=List (Int×Int×Int)
abbrev Ry:=(ByteArray×List (ByteArray×Int×Int×Int×Int×Int)×List (fD×List (Int×fD)))
abbrev sB:=((aS×fL))
abbrev f_:=List Nat
abbrev Hw:=Int×(List ((Int×Int)×Int))
abbrev Em:=Int×Int×Int×Int×Int
abbrev N_:=aS×aS×bE×(Int×Int×Int×Int×Int)
abbrev Jx:=List (fD×List (Int×fD))
abbrev yD:=(aS×fL)
abbrev KI:=(Int×(List ((Int×Int)×Int)))
abbrev Rz:=(ByteArray×Int×Int×Int×Int×Int)
abbrev Hx:=Value×List Value
abbrev RA:=Int×Int×Int×Int×Int×Bool×bE
abbrev Aj:=Int×aS
abbrev Oa:=Value×Value×List Value
abbrev VW:=((List (ByteArray×Int×Int×Int×Int×Int)))
abbrev VX:=(List (ByteArray×Int×Int×Int×Int×Int))
abbrev lX:Value:=Value.slice none 0 0
abbrev ER:List Value:=[lX,lX,lX,vI (0:Int),vI (0:Int),vI (0:Int),vI (0:Int),vU (0:Int)]
abbrev Zz:List Value:=[vI (0:Int),vI (0:Int),vI (0:Int),vI (0:Int),vU (0:Int)]
abbrev vD2:List Value:=[Value.pointer none,lX,vI (0:Int),vU (0:Int),Value.nilFunc]
abbrev Ti:List Value:=[vI (0:Int),vI (0:Int)]
abbrev vD4:List Value:=[vU (0:Int),vI (0:Int),vI (0:Int),vI (0:Int),vB (false),lX]
abbrev vD5:List Value:=[vS (ByteArray.mk #[]),vI (0:Int),vI (0:Int),vI (0:Int),vI (0:Int),vI (0:Int)]
end Go.Sx
namespace Go.Proofs.YtjkjpdonlpdcaaaGreatDoor
open Go.Sx
def FZ:aS:=[0,1,1,2,1,2,2,3,1,2,2,3,2,3,3,4,1,2,2,3,2,3,3,4,2,3,3,4,3,4,4,5,1,2,2,3,2,3,3,4,2,3,3,4,3,4,4,5,2,3,3,4,3,4,4,5,3,4,4,5,4,5,5,6,1,2,2,3,2,3,3,4,2,3,3,4,3,4,4,5,2,3,3,4,3,4,4,5,3,4,4,5,4,5,5,6,2,3,3,4,3,4,4,5,3,4,4,5,4,5,5,6,3,4,4,5,4,5,5,6,4,5,5,6,5,6,6,7,1,2,2,3,2,3,3,4,2,3,3,4,3,4,4,5,2,3,3,4,3,4,4,5,3,4,4,5,4,5,5,6,2,3,3,4,3,4,4,5,3,4,4,5,4,5,5,6,3,4,4,5,4,5,5,6,4,5,5,6,5,6,6,7,2,3,3,4,3,4,4,5,3,4,4,5,4,5,5,6,3,4,4,5,4,5,5,6,4,5,5,6,5,6,6,7,3,4,4,5,4,5,5,6,4,5,5,6,5,6,6,7,4,5,5,6,5,6,6,7,5,6,6,7,6,7,7,8]
theorem Lo:Iz (ByteArray.mk #[0,1,1,2,1,2,2,3,1,2,2,3,2,3,3,4,1,2,2,3,2,3,3,4,2,3,3,4,3,4,4,5,1,2,2,3,2,3,3,4,2,3,3,4,3,4,4,5,2,3,3,4,3,4,4,5,3,4,4,5,4,5,5,6,1,2,2,3,2,3,3,4,2,3,3,4,3,4,4,5,2,3,3,4,3,4,4,5,3,4,4,5,4,5,5,6,2,3,3,4,3,4,4,5,3,4,4,5,4,5,5,6,3,4,4,5,4,5,5,6,4,5,5,6,5,6,6,7,1,2,2,3,2,3,3,4,2,3,3,4,3,4,4,5,2,3,3,4,3,4,4,5,3,4,4,5,4,5,5,6,2,3,3,4,3,4,4,5,3,4,4,5,4,5,5,6,3,4,4,5,4,5,5,6,4,5,5,6,5,6,6,7,2,3,3,4,3,4,4,5,3,4,4,5,4,5,5,6,3,4,4,5,4,5,5,6,4,5,5,6,5,6,6,7,3,4,4,5,4,5,5,6,4,5,5,6,5,6,6,7,4,5,5,6,5,6,6,7,5,6,6,7,6,7,7,8])=FZ:=by kernel_rfl
def qP:aS:=[0,1,28,2,29,14,24,3,30,22,20,15,25,17,4,8,31,27,13,23,21,19,16,7,26,12,18,6,11,5,10,9]
theorem _root_.Go.Sx.Y.bld5 {P:Program} {c:uM} {n:Sz} {a:Fr} {M L:List aY} {d:Option Tmp} {E:TypeId} {k:String} {j:Array Edge} {g:Option (Nat×Bool)} {T:TypeId} {b e f h i:Nat} {s t u v x:Operand} {l m o p q:Value} {r:Value} (y:ev a s=some l) (z:ev a t=some m) (A:ev a u=some o) (B:ev a v=some p) (C:ev a x=some q) (D:∀w,(Instr.build T ([(b,l),(e,m),(f,o),(h,p),(i,q)]:List (Nat×Value)).toArray).run P w = .ok r w):Y P c n a M L ⟨d,.build T #[(b,s),(e,t),(f,u),(h,v),(i,x)],E,k,j,g⟩ r:=
 wS (ps:=[(b,s),(e,t),(f,u),(h,v),(i,x)]) (vs:=[(b,l),(e,m),(f,o),(h,p),(i,q)]) (by simp[y,z,A,B,C]) D
theorem _root_.Go.Sx.Y.bld6 {P:Program} {c:uM} {n:Sz} {a:Fr} {M L:List aY} {d:Option Tmp} {I:TypeId} {l:String} {k:Array Edge} {g:Option (Nat×Bool)} {T:TypeId} {b e f h i j:Nat} {u v x y z A:Operand} {m o p q s t:Value} {r:Value} (B:ev a u=some m) (C:ev a v=some o) (D:ev a x=some p) (E:ev a y=some q) (F:ev a z=some s) (G:ev a A=some t) (H:∀w,(Instr.build T ([(b,m),(e,o),(f,p),(h,q),(i,s),(j,t)]:List (Nat×Value)).toArray).run P w = .ok r w):Y P c n a M L ⟨d,.build T #[(b,u),(e,v),(f,x),(h,y),(i,z),(j,A)],I,l,k,g⟩ r:=
 wS (ps:=[(b,u),(e,v),(f,x),(h,y),(i,z),(j,A)]) (vs:=[(b,m),(e,o),(f,p),(h,q),(i,s),(j,t)]) (by simp[B,C,D,E,F,G]) H
abbrev ESt:dD ByteArray:=⟨1,Nat.one_pos,λx=>[.string x],λ_=>rfl⟩
abbrev RSt:eG ByteArray:=⟨1,Nat.one_pos,λ_ _ a x=>a=[.string x],λh=>by simp[h],λh _=>h⟩
theorem FSt:ESt.Fits RSt:=⟨rfl,λh=>h,rfl,λ_=>rfl⟩
abbrev cI:dD Int:=dD.int .i64
abbrev bJ:eG Int:=eG.int .i64
theorem dL:cI.Fits bJ:=EX .i64
theorem fG:bJ.Cell 0 (λx=> .int .i64 x):=E_ .i64
abbrev jY:dD Rz:=dD.pair ESt (dD.pair cI (dD.pair cI (dD.pair cI (dD.pair cI (cI)))))
abbrev aJ:eG Rz:=eG.pair RSt (eG.pair bJ (eG.pair bJ (eG.pair bJ (eG.pair bJ (bJ)))))
theorem gZ:jY.Fits aJ:=kW FSt (kW dL (kW dL (kW dL (kW dL (dL)))))
theorem qZ:aJ.Cell 1 (λx=> .int .i64 x.2.1):=cE (mX (fG))
theorem Cq:aJ.Cell 2 (λx=> .int .i64 x.2.2.1):=cE (cE (mX (fG)))
theorem Cr:aJ.Cell 3 (λx=> .int .i64 x.2.2.2.1):=cE (cE (cE (mX (fG))))
theorem Cs:aJ.Cell 4 (λx=> .int .i64 x.2.2.2.2.1):=cE (cE (cE (cE (mX (fG)))))
theorem Ct:aJ.Cell 5 (λx=> .int .i64 x.2.2.2.2.2):=cE (cE (cE (cE (cE (fG)))))
abbrev bU:dD dY:=dD.pair cI (cI)
abbrev bG:eG dY:=eG.pair bJ (bJ)
theorem bI:bU.Fits bG:=kW dL (dL)
theorem Bz:bG.Cell 0 (λx=> .int .i64 x.1):=mX (fG)
theorem OI:bG.Cell 1 (λx=> .int .i64 x.2):=cE (fG)
abbrev qT:eG (Int×(Value×fD)):=eG.pair bJ ((eG.sl bG))
theorem JF:qT.All 2 (λx=>[Value.int .i64 (x.1),x.2.1]):=(Lc (OM dL) (ON bG))
theorem Ce:qT.Deep bG (λx=>x.2):=Dp (CF bG)
abbrev aG:eG (ByteArray×(Value×fD)×(Value×List (Int×(Value×fD)))):=eG.pair RSt (eG.pair (eG.sl bG) ((eG.sl qT)))
theorem yU:aG.Cell 1 (λx=>x.2.1.1):=cE (mX (eG.sl_cell bG))
theorem yW:aG.Deep bG (λx=>x.2.1):=Dp (Sb (CF bG))
theorem yV:aG.Cell 2 (λx=>x.2.2.1):=cE (cE (eG.sl_cell qT))
theorem fU:aG.Deep qT (λx=>x.2.2):=Dp (Dp (CF qT))
abbrev EFn:dD Nat:=dD.fn
abbrev RFn:eG Nat:=eG.fn
theorem FFn:EFn.Fits RFn:=Mn
abbrev HL:dD (Int×Nat):=dD.pair cI (EFn)
abbrev WE:eG (Int×Nat):=eG.pair bJ (RFn)
theorem An:HL.Fits WE:=kW dL (FFn)
abbrev EBo:dD Bool:=dD.bool
abbrev lM:dD Int:=dD.int .u32
abbrev sE:eG Int:=eG.int .u32
theorem kZ:lM.Fits sE:=EX .u32
theorem CE:sE.Cell 0 (λx=> .int .u32 x):=E_ .u32
abbrev Cy:dD Int:=dD.int .u8
abbrev uS:dD (Int×Int×Int):=dD.pair cI (dD.pair cI (cI))
abbrev fO:eG (Int×Int×Int):=eG.pair bJ (eG.pair bJ (bJ))
theorem Ao:uS.Fits fO:=kW dL (kW dL (dL))
theorem JG:fO.Cell 0 (λx=> .int .i64 x.1):=mX (fG)
theorem JH:fO.Cell 2 (λx=> .int .i64 x.2.2):=cE (cE (fG))
def Oe (x:Int):Value:=Value.int .i64 (x)
def nQ (x:dQ):Value:=Value.agg #[Value.int .i64 (x.1),Value.int .i64 (x.2)]
theorem Yn (x y:dQ) (m:Nat) (w:World):(Op.equalIn (m+2) 53 (.agg #[.int .i64 x.1,.int .i64 x.2]) (.agg #[.int .i64 y.1,.int .i64 y.2])).run Tryz.prog w = .ok (decide (x=y)) w:=by
 have c:∀a b:Int,(Op.equalIn (m+1) 3 (.int .i64 a) (.int .i64 b)).run Tryz.prog w = .ok (a==b) w:=by
  intro a b;simp[Op.equalIn]
 unfold Op.equalIn;simp[show List.range' 0 2=[0,1]from rfl,part,isAgg,c];obtain⟨d,e⟩:=x;obtain⟨f,g⟩:=y;by_cases h:d=f<;>by_cases i:e=g<;>simp[h,i,c]
theorem XO (b:Bool) (k:dQ) (w:World):(Instr.checkKey b 10000 53 (nQ k)).run Tryz.prog w = .ok () w:=by
 have a:∀m:Nat,(Instr.checkKey b (m+2) 53 (nQ k)).run Tryz.prog w = .ok () w:=by
  intro m;simp[Instr.checkKey,nQ,part,isAgg,show List.range' 0 2=[0,1]from rfl]
 exact a 9998
theorem PC:Ij Tryz.prog 53 nQ:=OE Tryz.underlying53 XO (λ_ _=>rfl) (λa b w=>Yn a b 9998 w) (λk=>by
 have c:∀m:Nat,Instr.sameBits (m+2) (nQ k) (nQ k)=true:=λm=>by simp[Instr.sameBits,nQ]
 exact c 9998)
theorem qL (b:Value) (c:one b=true) (a:Array Value) (h:a.size=1*1):Instr.fill (λi=>some (i*1,1)) a [(0,b)]=some [b].toArray:=by
 obtain⟨l⟩:=a
 match l,h with
 | [z0],_=>simp[Instr.fill,kA c]
theorem xW (b c:Value) (a:Array Value) (h:a.size=1*2):Instr.fill (λi=>some (i*2,2)) a [(0,.agg #[b,c])]=some [b,c].toArray:=by
 obtain⟨l⟩:=a
 match l,h with
 | [z0,z1],_=>simp[Instr.fill,Value.cells]
theorem UP (b c d:Value) (a:Array Value) (h:a.size=1*3):Instr.fill (λi=>some (i*3,3)) a [(0,.agg #[b,c,d])]=some [b,c,d].toArray:=by
 obtain⟨l⟩:=a
 match l,h with
 | [z0,z1,z2],_=>simp[Instr.fill,Value.cells]
theorem Nk (b c d e f g:Value) (a:Array Value) (h:a.size=1*6):Instr.fill (λi=>some (i*6,6)) a [(0,.agg #[b,c,d,e,f,g])]=some [b,c,d,e,f,g].toArray:=by
 obtain⟨l⟩:=a
 match l,h with
 | [z0,z1,z2,z3,z4,z5],_=>simp[Instr.fill,Value.cells]
theorem UQ (b c:Value) (d:one b=true) (e:one c=true) (a:Array Value) (h:a.size=2*1):Instr.fill (λi=>some (i*1,1)) a [(0,b),(1,c)]=some [b,c].toArray:=by
 obtain⟨l⟩:=a
 match l,h with
 | [z0,z1],_=>simp[Instr.fill,kA d,kA e]
theorem UR (b c d e f g:Value) (a:Array Value) (h:a.size=3*2):Instr.fill (λi=>some (i*2,2)) a [(0,.agg #[b,c]),(1,.agg #[d,e]),(2,.agg #[f,g])]=some [b,c,d,e,f,g].toArray:=by
 obtain⟨l⟩:=a
 match l,h with
 | [z0,z1,z2,z3,z4,z5],_=>simp[Instr.fill,Value.cells]
def xQ (a:Int) (b:Bool):Option (Int):=
 if b=true then(some (-1:Int))else(if a<=(17:Int)then(some (0:Int))else(if a<=(29:Int)then(some (1:Int))else(if a<=(42:Int)then(some (2:Int))else(some (3:Int)))))
def vX (U:Nat) (a:Int):Option (Int):=
 if a<(1:Int)then(xQ a (true))else(xQ a (decide ((43:Int)<a)))
theorem XB:aR Tryz.prog 272:=Tryz.call272
theorem Me (U:Nat) {b:Int} (r:Int) (h:vX U b=some r):
  aW Tryz.prog 272 #[vI (b)] [] (λx:Unit=>vI (r)) (λx l=>l) (λ_ l=>l):=by
 refine aW.of Tryz.func272 Z Tryz.ntmps272 Z λc=>?_;refine aP<|aC Z<|aN<|aM<|aT<|aM<|fF (λa=>xQ b a=some r) (λa d=>[(0,vI (b)),(3,vB (a))]) (λa d=>[]) ?_ ?_
 ·refine aQ<|aA Z<|cW Z<|aA Z ?_;refine CP h Z (λ_ h=>?_) λ_ h=>?_
  ·refine aI Z<|aI Z<|eR Z<|aC Z<|aN ?_;exact iP (true) () h SF Z
  refine eP Z<|aU Z (zO Z Z) Z<|eY Z<|aC Z<|aN ?_;exact iP (decide ((43:Int)<b)) () h SF Z
 intro a d h;refine BF h Z (λ_ h=>?_) λ_ h=>?_
 ·refine aP<|aC Z<|aN<|aV<|bS<|aK ?_;cases h;exact lL Z
 refine aP<|aA Z<|aD (A_ Z Z) Z<|aC Z<|aN ?_;refine dK h Z (λh=>?_) λh=>?_
 ·refine aP<|aC Z<|aN<|aV<|bS<|aK ?_;cases h;exact lL Z
 refine aP<|aA Z<|aD (A_ Z Z) Z<|aC Z<|aN ?_;refine dK h Z (λh=>?_) λh=>?_
 ·refine aP<|aC Z<|aN<|aV<|bS<|aK ?_;cases h;exact lL Z
 refine aP<|aA Z<|aD (A_ Z Z) Z<|aC Z<|aN ?_;refine dK h Z (λh=>?_) λh=>?_
 ·refine aP<|aC Z<|aN<|aV<|bS<|aK ?_;cases h;exact lL Z
 refine dR<|oP<|aP<|aC Z<|aN<|aV ?_;cases h;exact lL Z
def Df  (a:Unit):Option (Int):=
 some (-1:Int)
def lK (U:Nat) (d:fD) (a:dQ) (c:dY->Option (Int)):Option (Int):=
 if a.1<(List.length d:Int)then(ck (0<=a.1∧a.1<(List.length d:Int)) (Option.bind (vX U ((at' d a.1).1)) λb=>(if b<(0:Int)then(some (-1:Int))else(if(wI .i64 (a.2+(wI .i64 (b - (1:Int)))))=(0:Int)then(some (wI .i64 (a.1+(1:Int))))else(c ((wI .i64 (a.1+(1:Int))),(wI .i64 (a.2+(wI .i64 (b - (1:Int)))))))))))else(Df  (()))
def AE (U:Nat) (b:fD) (c:Int) (a:Bool):Option (Int):=
 if a=true then(some (-1:Int))else(bP (lK U b) U (c,(1:Int)))
def BR (U:Nat) (b:fD) (a:Int):Option (Int):=
 if a<(0:Int)then(AE U b a (true))else(AE U b a (decide ((List.length b:Int)<=a)))
theorem XA:aR Tryz.prog 259:=Tryz.call259
theorem PS (U:Nat) {g:fD} {b:Int} (k:Value) (r:Int) (h:BR U g b=some r):
  aW Tryz.prog 259 #[k,vI (b)] [Sl bG k g] (λx:Unit=>vI (r)) (λx l=>l) (λ_ l=>l):=by
 refine aW.of Tryz.func259 Z Tryz.ntmps259 Z λc=>?_;refine aP<|aC Z<|aN<|aM<|aM<|fF (λd=>AE U g b d=some r) (λd n=>[(0,k),(1,vI (b)),(14,vB (d))]) (λd n=>[]) ?_ ?_
 ·refine aQ<|aA Z<|cW Z<|aA Z ?_;refine CP h Z (λ_ h=>?_) λ_ h=>?_
  ·refine aI Z<|aI Z<|aI Z<|aI Z<|eR Z<|aN ?_;exact iP (true) () h SF Z
  refine eP Z<|eP Z<|aU Z (kR Z (aF.fact 0 Z) Z) Z<|aU Z (Eb Z Z) Z<|eY Z<|aN ?_;exact iP (decide ((List.length g:Int)<=b)) () h SF Z
 intro d n h;refine BF h Z (λ_ h=>?_) λ_ h=>?_
 ·refine aP<|aC Z<|aN<|aV<|aK ?_;cases h;exact lL Z
 refine cT<|aM<|fF (λj=>Df  j=some r) (λj o=>[]) (λj o=>[]) ?_ ?_
 ·refine aP<|aC Z<|aN<|aT<|fJ (lK U g) (λa e=>[(0,k),(1,vI (a.1)),(5,vI (a.2))]) (λa e=>[]) (b,(1:Int)) () h SF (bA.refl _) ?_;intro p a e h;refine aM<|aP<|aA Z<|aA Z<|jS (aF.fact 0 Z) Z<|cW Z<|aN ?_;refine dK h Z (λh=>?_) λh=>?_
  ·refine cT<|aM<|aT<|aP<|aA Z<|aA Z<|eH h λf h=>aD (bK Z Z (aF.fact 0 Z) Z Z f) Z<|aD (lO Z Z Z Z Z) Z<|aD (oH Z (aF.fact 0 Z) Z Z Z Bz f) Z<|fE h λi m h=>aH (aL.callQ XB (Me U  i m) Z .nil) Z λq=>aC Z<|aN<|aM<|aP<|aA Z<|cW Z<|aN ?_;refine dK h Z (λh=>?_) λh=>?_
   ·refine aP<|aC Z<|aN<|aV<|aK<|bS<|aK<|aK<|bS<|aK ?_;cases h;exact lL Z
   refine cT<|aP<|aA Z<|aA Z<|aD (q_ Z Z) Z<|cJ Z<|aC Z<|aN<|aP<|aA Z<|bR Z<|aN ?_;refine dK h Z (λh=>?_) λh=>?_
   ·refine aP<|aA Z<|cJ Z<|aC Z<|aN<|aV<|bS<|aK<|aK<|bS<|aK ?_;cases h;exact lL Z
   refine dR<|oP<|aQ<|aA Z<|cJ Z<|aC Z<|aN ?_;exact AX ((wI .i64 (a.1+(1:Int))),(wI .i64 (a.2+(wI .i64 (i - (1:Int)))))) () h SF Z
  refine gX ?_;exact iP () (()) h SF Z
 intro j o h;unfold Df at h;refine aP<|aC Z<|aN<|aV ?_;cases h;exact lL Z
def iO (U:Nat) (a:Bool):Option (Int):=
 if a=true then(some (1:Int))else(some (0:Int))
theorem xF:aR Tryz.prog 290:=Tryz.call290
theorem kY (U:Nat) {a:Bool} (r:Int) (h:iO U a=some r):
  aW Tryz.prog 290 #[vB (a)] [] (λx:Unit=>vI (r)) (λx l=>l) (λ_ l=>l):=by
 refine aW.of Tryz.func290 Z Tryz.ntmps290 Z λc=>?_;refine aP<|aC Z<|aN<|aM<|aP<|aA Z<|aN ?_;refine BF h Z (λ_ h=>?_) λ_ h=>?_
 ·refine aP<|aC Z<|aN<|aV<|aK ?_;cases h;exact lL Z
 refine cT<|aP<|aC Z<|aN<|aV ?_;cases h;exact lL Z
def rV (U:Nat) (a:Tf) (d:Int) (b:Int) (c:Int):Option (Int):=
 if d=(6:Int)then(some (List.length a.2.1.1:Int))else(if d=(7:Int)then(some (a.2.2.1))else(if d=(8:Int)then(ck (0<=b∧b<(List.length a.2.1.1:Int)) (some (at' a.2.1.1 b)))else(if d=(9:Int)then(ck (0<=b∧b<(List.length a.2.1.2:Int)) (some (List.length (at' a.2.1.2 b):Int)))else(if d=(10:Int)then(Option.bind (iO U (decide (b=(0:Int)))) λf=>(some (f)))else(if d=(11:Int)then(some (c))else(ck (0<=b∧b<(List.length a.2.1.2:Int)) (ck (0<=c∧c<(List.length (at' a.2.1.2 b):Int)) (if d=(13:Int)then(ck (0<=((at' (at' a.2.1.2 b) c).1)∧((at' (at' a.2.1.2 b) c).1)<(List.length a.2.1.1:Int)) (some (at' a.2.1.1 ((at' (at' a.2.1.2 b) c).1))))else(if d=(14:Int)then(ck (0<=((at' (at' a.2.1.2 b) c).1)∧((at' (at' a.2.1.2 b) c).1)<(List.length a.2.1.2:Int)) (some (List.length (at' a.2.1.2 ((at' (at' a.2.1.2 b) c).1)):Int)))else(if d=(15:Int)then(Option.bind (iO U (decide (((at' (at' a.2.1.2 b) c).1)=(0:Int)))) λe=>(some (e)))else(if d=(16:Int)then(some ((at' (at' a.2.1.2 b) c).2))else(ck (0<=b∧b<(List.length a.2.2.2:Int)) (ck (0<=c∧c<(List.length (at' a.2.2.2 b):Int)) (some (at' (at' a.2.2.2 b) c)))))))))))))))
theorem XF:aR Tryz.prog 289:=Tryz.call289
theorem CZ (U:Nat) {d:Tf} {s:Int} {f:Int} {g:Int} (i:Nat)  (t:Value)  (u:Value)  (v:Value)  (w:Value)  (F:mV)  (y:Value)  (G:pA) (r:Int) (h:rV U d s f g=some r):
  aW Tryz.prog 289 #[vP i,vI (s),vI (f),vI (g)] [bX i [vS (d.1.1),t,u,v,w,vI (d.2.2.1),y] 212,Sl aJ t d.1.2.1,Sl aG u d.1.2.2,Sl bJ v d.2.1.1,S2 bG w F d.2.1.2,S2 bJ y G d.2.2.2] (λx:Unit=>vI (r)) (λx l=>l) (λ_ l=>l):=by
 refine aW.of Tryz.func289 Z Tryz.ntmps289 Z λc=>?_;refine aP<|aC Z<|aN<|aM<|aP<|aA Z<|aN<|aT<|aP<|bR Z<|aC Z<|aN ?_;refine dK h Z (λh=>?_) λh=>?_
 ·refine aP<|aA Z<|aD (bW Z) Z<|bV Z<|bV Z<|aD (dU Z (aF.fact 0 Z) Z Z Z) Z<|jS (aF.fact 3 Z) Z<|aC Z<|aN<|aV<|bS<|aK ?_;cases h;exact lL Z
 refine aP<|bR Z<|aC Z<|aN ?_;refine dK h Z (λh=>?_) λh=>?_
 ·refine aP<|aA Z<|aD (bW Z) Z<|bV Z<|aD (dU Z (aF.fact 0 Z) Z Z Z) Z<|aC Z<|aN<|aV<|bS<|aK ?_;cases h;exact lL Z
 refine aP<|bR Z<|aC Z<|aN ?_;refine dK h Z (λh=>?_) λh=>?_
 ·refine aP<|aA Z<|aD (bW Z) Z<|bV Z<|bV Z<|aD (dU Z (aF.fact 0 Z) Z Z Z) Z<|aA Z<|eH h λq h=>aD (bK Z Z (aF.fact 3 Z) Z Z q) Z<|aD (cQ Z (aF.fact 3 Z) Z Z Z fG q) Z<|aC Z<|aN<|aV<|bS<|aK ?_;cases h;exact lL Z
 refine aP<|bR Z<|aC Z<|aN ?_;refine dK h Z (λh=>?_) λh=>?_
 ·refine aP<|aA Z<|aD (bW Z) Z<|bV Z<|bV Z<|aD (dU Z (aF.fact 0 Z) Z Z Z) Z<|aA Z<|eH h λn h=>aD (cV Z Z (aF.fact 4 Z) Z Z n) Z<|aD (cX Z (aF.fact 4 Z) Z Z n) Z<|aD (kR Z (aF.el (aF.fact 4 Z) n.1 n.2) Z) Z<|aC Z<|aN<|aV<|bS<|aK ?_;cases h;exact lL Z
 refine aP<|bR Z<|aC Z<|aN ?_;refine dK h Z (λh=>?_) λh=>?_
 ·refine aP<|aA Z<|bR Z<|fE h λB C h=>aH (aL.callQ xF (kY U  B C) Z .nil) Z λD=>aC Z<|aN<|aV<|bS<|aK ?_;cases h;exact lL Z
 refine aP<|bR Z<|aC Z<|aN ?_;refine dK h Z (λh=>?_) λh=>?_
 ·refine aP<|aA Z<|aC Z<|aN<|aV<|bS<|aK ?_;cases h;exact lL Z
 refine dR<|oP<|aP<|aA Z<|aD (bW Z) Z<|bV Z<|bV Z<|aD (dU Z (aF.fact 0 Z) Z Z Z) Z<|aA Z<|eH h λa h=>aD (cV Z Z (aF.fact 4 Z) Z Z a) Z<|aD (cX Z (aF.fact 4 Z) Z Z a) Z<|aA Z<|eH h λj h=>aD (bK Z Z (aF.el (aF.fact 4 Z) a.1 a.2) Z Z j) Z<|aD (g_ (cs:=[vI ((at' (at' d.2.1.2 f) g).1),vI ((at' (at' d.2.1.2 f) g).2)]) Z (aF.el (aF.fact 4 Z) a.1 a.2) bI Z Z Z Z j) Z<|aH (aL.alloc (cs:=Ti) Z Z) Z λA=>bO 0 (vs:=[vI ((at' (at' d.2.1.2 f) g).1),vI ((at' (at' d.2.1.2 f) g).2)]) Z Z Z Z Z Z<|aN<|aM<|aP<|aA Z<|aN<|aT<|aP<|bR Z<|aC Z<|aN ?_;refine dK h Z (λh=>?_) λh=>?_
 ·refine aM ?_;refine JR.start [0,1,3,7,15,0,32,127,255,511] 7 mixedOrders (by decide +kernel) ?_;refine JR.open (by exact rfl) ?_;refine bD Z<|iB Z (bW Z)<|cH Z<|cH Z<|bL Z .nil (nW 0 Z) (dU Z (aF.fact 0 Z) Z Z Z) aO.z<|cH Z<|gU 0 Z<|bQ 7 Z Z<|eH h λk h=>aD (bK Z Z (aF.fact 3 Z) Z Z k) Z<|aD (cQ Z (aF.fact 3 Z) Z Z Z fG k) Z<|aC Z<|aN<|aV<|bS<|aK ?_;cases h;exact wD Z
 refine aP<|bR Z<|aC Z<|aN ?_;refine dK h Z (λh=>?_) λh=>?_
 ·refine aM ?_;refine JR.start [0,1,3,7,15,0,32,127,255,511,1023] 7 mixedOrders (by decide +kernel) ?_;refine JR.open (by exact rfl) ?_;refine bD Z<|iB Z (bW Z)<|cH Z<|cH Z<|bL Z .nil (nW 0 Z) (dU Z (aF.fact 0 Z) Z Z Z) aO.z<|cH Z<|gU 0 Z<|bQ 7 Z Z<|eH h λe h=>aD (cV Z Z (aF.fact 4 Z) Z Z e) Z<|aD (cX Z (aF.fact 4 Z) Z Z e) Z<|aD (kR Z (aF.el (aF.fact 4 Z) e.1 e.2) Z) Z<|aC Z<|aN<|aV<|bS<|aK ?_;cases h;exact wD Z
 refine aP<|bR Z<|aC Z<|aN ?_;refine dK h Z (λh=>?_) λh=>?_
 ·refine aP<|bV Z<|dO 0 Z<|bR Z<|fE h λo p h=>aH (aL.callQ xF (kY U  o p) Z .nil) Z λE=>aC Z<|aN<|aV<|bS<|aK ?_;cases h;exact wD Z
 refine aP<|bR Z<|aC Z<|aN ?_;refine dK h Z (λh=>?_) λh=>?_
 ·refine aP<|bV Z<|dO 0 Z<|aC Z<|aN<|aV<|bS<|aK ?_;cases h;exact wD Z
 refine dR<|oP<|aP<|aA Z<|aD (bW Z) Z<|bV Z<|aD (dU Z (aF.fact 0 Z) Z Z Z) Z<|aA Z<|eH h λb h=>aD (cV Z Z (aF.fact 5 Z) Z Z b) Z<|aD (cX Z (aF.fact 5 Z) Z Z b) Z<|aA Z<|eH h λm h=>aD (bK Z Z (aF.el (aF.fact 5 Z) b.1 b.2) Z Z m) Z<|aD (cQ Z (aF.el (aF.fact 5 Z) b.1 b.2) Z Z Z fG m) Z<|aC Z<|aN<|aV ?_;cases h;exact wD Z
def mD (U:Nat) (a:Mh) (b:dQ) (c:Int):Option (Int):=
 if b.1=(1:Int)then(some (b.2))else(if b.1=(2:Int)then(some (1:Int))else(if b.1=(3:Int)then(some (0:Int))else(if b.1=(4:Int)then(some (-1:Int))else(if b.1=(5:Int)then(ck (0<=a.2.2.1∧a.2.2.1<(List.length a.2.1:Int)) (ck (0<=b.2∧b.2<(List.length (at' a.2.1 a.2.2.1):Int)) (some (at' (at' a.2.1 a.2.2.1) b.2))))else(if b.1=(12:Int)then(ck (0<=a.2.2.1∧a.2.2.1<(List.length a.1.2.1.2:Int)) (ck (0<=c∧c<(List.length (at' a.1.2.1.2 a.2.2.1):Int)) (ck (0<=((at' (at' a.1.2.1.2 a.2.2.1) c).1)∧((at' (at' a.1.2.1.2 a.2.2.1) c).1)<(List.length a.2.1:Int)) (ck (0<=b.2∧b.2<(List.length (at' a.2.1 ((at' (at' a.1.2.1.2 a.2.2.1) c).1)):Int)) (some (at' (at' a.2.1 ((at' (at' a.1.2.1.2 a.2.2.1) c).1)) b.2))))))else(Option.bind (rV U ((((a.1.1.1,a.1.1.2.1,a.1.1.2.2)),((a.1.2.1.1,a.1.2.1.2)),a.1.2.2.1,a.1.2.2.2)) b.1 a.2.2.1 c) λd=>(some (d))))))))
theorem XC:aR Tryz.prog 280:=Tryz.call280
theorem DV (U:Nat) {d:Mh} {k:dQ} {y:Int} (g:Nat)  (e:Nat)  (o:Value)  (p:Value)  (q:Value)  (s:Value)  (B:mV)  (t:Value)  (C:pA)  (A:Value)  (v:pA)  (m:Value) (r:Int) (h:mD U d k y=some r):
  aW Tryz.prog 280 #[vP g,Value.agg #[vI (k.1),vI (k.2)],vI (y)] [bX g [vP e,A,vI (d.2.2.1),m] 255,bX e [vS (d.1.1.1),o,p,q,s,vI (d.1.2.2.1),t] 212,Sl aJ o d.1.1.2.1,Sl aG p d.1.1.2.2,Sl bJ q d.1.2.1.1,S2 bG s B d.1.2.1.2,S2 bJ t C d.1.2.2.2,S2 bJ A v d.2.1,Sl bG m d.2.2.2] (λx:Unit=>vI (r)) (λx l=>l) (λ_ l=>l):=by
 refine aW.of Tryz.func280 Z Tryz.ntmps280 Z λc=>?_;refine aP<|aH (aL.box (cs:=[vI (k.1),vI (k.2)]) Z Z) Z λE=>aC Z<|aN<|aM<|aP<|bV Z<|dO 0 Z<|aN<|aT<|aP<|bR Z<|aC Z<|aN ?_;refine dK h Z (λh=>?_) λh=>?_
 ·refine aP<|bV Z<|dO 0 Z<|aC Z<|aN<|aV<|bS<|aK ?_;cases h;exact wD Z
 refine aP<|bR Z<|aC Z<|aN ?_;refine dK h Z (λh=>?_) λh=>?_
 ·refine aP<|aC Z<|aN<|aV<|bS<|aK ?_;cases h;exact wD Z
 refine aP<|bR Z<|aC Z<|aN ?_;refine dK h Z (λh=>?_) λh=>?_
 ·refine aP<|aC Z<|aN<|aV<|bS<|aK ?_;cases h;exact wD Z
 refine aP<|bR Z<|aC Z<|aN ?_;refine dK h Z (λh=>?_) λh=>?_
 ·refine aP<|aC Z<|aN<|aV<|bS<|aK ?_;cases h;exact wD Z
 refine aP<|bR Z<|aC Z<|aN ?_;refine dK h Z (λh=>?_) λh=>?_
 ·refine aM ?_;refine JR.start [0,1,3,7,0,16,48,112,255,511,0,1024,4095,8191,16383] 12 mixedOrders (by decide +kernel) ?_;refine JR.open (by exact rfl) ?_;refine bD Z<|iB Z (bW Z)<|cH Z<|bL Z .nil (nW 0 Z) (dU Z (aF.fact 0 Z) Z Z Z) aO.z<|bD Z<|iB Z (bW Z)<|cH Z<|bL Z .nil (nW 0 Z) (dU Z (aF.fact 0 Z) Z Z Z) aO.z<|eH h λf h=>bL Z .nil (nW 7 Z) (cV Z Z (aF.fact 0 Z) Z Z f) aO.z<|bL Z .nil (nW 7 Z) (cX Z (aF.fact 0 Z) Z Z f) aO.z<|cH Z<|gU 0 Z<|bQ 12 Z Z<|eH h λw h=>aD (bK Z Z (aF.el (aF.fact 7 Z) f.1 f.2) Z Z w) Z<|aD (cQ Z (aF.el (aF.fact 7 Z) f.1 f.2) Z Z Z fG w) Z<|aC Z<|aN<|aV<|bS<|aK ?_;cases h;exact wD Z
 refine aP<|bR Z<|aC Z<|aN ?_;refine dK h Z (λh=>?_) λh=>?_
 ·refine aM ?_;refine JR.start [0,1,3,7,0,16,48,112,240,496,1008,2032,0,4096,12288,28672,65520,131056,0,524272,1048560,2097136,4194303,8388607,0,16777216,67108863,134217727,268435455] 26 mixedOrders (by decide +kernel) ?_;refine JR.open (by exact rfl) ?_;refine bD Z<|iB Z (bW Z)<|cH Z<|bL Z .nil (nW 0 Z) (dU Z (aF.fact 0 Z) Z Z Z) aO.z<|bD Z<|iB Z (bW Z)<|cH Z<|bL Z .nil (nW 0 Z) (dU Z (aF.fact 0 Z) Z Z Z) aO.z<|iB Z (bW Z)<|cH Z<|cH Z<|bL Z .nil (nW 1 Z) (dU Z (aF.fact 0 Z) Z Z Z) aO.z<|bD Z<|iB Z (bW Z)<|cH Z<|bL Z .nil (nW 0 Z) (dU Z (aF.fact 0 Z) Z Z Z) aO.z<|eH h λa h=>bL Z .nil (nW 5 Z) (cV Z Z (aF.fact 0 Z) Z Z a) aO.z<|bL Z .nil (nW 5 Z) (cX Z (aF.fact 0 Z) Z Z a) aO.z<|bD Z<|eH h λi h=>bL Z .nil (nW 5 Z) (bK Z Z (aF.el (aF.fact 0 Z) a.1 a.2) Z Z i) aO.z<|iB Z (lO Z Z Z Z Z)<|bL Z .nil (nW 5 Z) (oH Z (aF.el (aF.fact 0 Z) a.1 a.2) Z Z Z Bz i) aO.z<|eH h λb h=>bL Z .nil (nW 7 Z) (cV Z Z (aF.fact 0 Z) Z Z b) aO.z<|bL Z .nil (nW 7 Z) (cX Z (aF.fact 0 Z) Z Z b) aO.z<|cH Z<|gU 0 Z<|bQ 26 Z Z<|eH h λj h=>aD (bK Z Z (aF.el (aF.fact 7 Z) b.1 b.2) Z Z j) Z<|aD (cQ Z (aF.el (aF.fact 7 Z) b.1 b.2) Z Z Z fG j) Z<|aC Z<|aN<|aV<|bS<|aK ?_;cases h;exact wD Z
 refine dR<|oP<|aM ?_;refine JR.start [0,1,3,7,0,16,0,64,192,448,0,2047,4095] 11 mixedOrders (by decide +kernel) ?_;refine JR.open (by exact rfl) ?_;refine bD Z<|iB Z (bW Z)<|cH Z<|bL Z .nil (nW 0 Z) (dU Z (aF.fact 0 Z) Z Z Z) aO.z<|cH Z<|gU 0 Z<|bD Z<|iB Z (bW Z)<|cH Z<|bL Z .nil (nW 0 Z) (dU Z (aF.fact 0 Z) Z Z Z) aO.z<|bD Z<|bQ 11 Z Z<|fE h λn u h=>aH (aL.callQ XF (CZ U e o p q s B t C n u) Z (mK [1,2,3,4,5,6] Z)) Z λD=>aC Z<|aN<|aV ?_;cases h;exact wD Z
def zA (U:Nat) (b:Int) (a:Int):Option (Int):=
 if b=(18:Int)then(some (wI .i64 (0 - a)))else(Option.bind (iO U (decide (a=(0:Int)))) λc=>(some (c)))
theorem XD:aR Tryz.prog 281:=Tryz.call281
theorem L_ (U:Nat) {a:Int} {b:Int} (r:Int) (h:zA U a b=some r):
  aW Tryz.prog 281 #[vI (a),vI (b)] [] (λx:Unit=>vI (r)) (λx l=>l) (λ_ l=>l):=by
 refine aW.of Tryz.func281 Z Tryz.ntmps281 Z λc=>?_;refine aP<|aC Z<|aN<|aM<|aP<|aA Z<|bR Z<|aN ?_;refine dK h Z (λh=>?_) λh=>?_
 ·refine aP<|aA Z<|aD (Qf Z) Z<|aC Z<|aN<|aV<|aK ?_;cases h;exact lL Z
 refine cT<|aP<|aA Z<|bR Z<|fE h λd e h=>aH (aL.callQ xF (kY U  d e) Z .nil) Z λf=>aC Z<|aN<|aV ?_;cases h;exact lL Z
def jC (U:Nat) (a:Int):Option (Int):=
 some (max (-1073741824:Int) (min a (1073741824:Int)))
theorem Dr:aR Tryz.prog 292:=Tryz.call292
theorem mU (U:Nat) {a:Int} (r:Int) (h:jC U a=some r):
  aW Tryz.prog 292 #[vI (a)] [] (λx:Unit=>vI (r)) (λx l=>l) (λ_ l=>l):=by
 refine aW.of Tryz.func292 Z Tryz.ntmps292 Z λc=>?_;unfold jC at h;refine aP<|aC Z<|aN<|aP<|aA Z<|aD (Zc Z Z) Z<|aD (Ir Z Z) Z<|aC Z<|aN<|aV ?_;cases h;exact lL Z
def pS  (a:Int):Option (Int):=
 some (a)
def sM (a:Int) (b:Int) (c:Bool):Option (Int):=
 if c=true then(pS  (wI .i64 ((wI .i64 (Int.tdiv a b)) - (1:Int))))else(pS  (wI .i64 (Int.tdiv a b)))
def qN (U:Nat) (b:Int) (a:Int):Option (Int):=
 if a=(0:Int)then(some (0:Int))else(ck (a≠0) (ck (a≠0) (if(Int.tmod b a)≠(0:Int)then(sM b a (((decide (b<(0:Int))) != (decide (a<(0:Int))))))else(sM b a (false)))))
theorem Qy:aR Tryz.prog 293:=Tryz.call293
theorem Co (U:Nat) {a:Int} {b:Int} (r:Int) (h:qN U a b=some r):
  aW Tryz.prog 293 #[vI (a),vI (b)] [] (λx:Unit=>vI (r)) (λx l=>l) (λ_ l=>l):=by
 refine aW.of Tryz.func293 Z Tryz.ntmps293 Z λc=>?_;refine aP<|aC Z<|aN<|aM<|aP<|aA Z<|bR Z<|aN ?_;refine dK h Z (λh=>?_) λh=>?_
 ·refine aP<|aC Z<|aN<|aV<|aK ?_;cases h;exact lL Z
 refine cT<|aP<|aA Z<|aA Z<|eH h λj h=>aD (TU Z Z j) Z<|aC Z<|aN<|aM<|fF (λd=>pS  d=some r) (λd g=>[(5,vI (d))]) (λd g=>[]) ?_ ?_
 ·refine aM<|fF (λe=>sM a b e=some r) (λe i=>[(5,vI (wI .i64 (Int.tdiv a b))),(21,vB (e))]) (λe i=>[]) ?_ ?_
  ·refine aQ<|aA Z<|aA Z<|eH h λf h=>aD (MV Z Z f) Z<|p_ Z<|aA Z ?_;refine CP h Z (λ_ h=>?_) λ_ h=>?_
   ·refine eP Z<|aU Z (Hg Z Z) Z<|eP Z<|aU Z (Hg Z Z) Z<|aU Z (TT Z Z Z) Z<|eR Z<|aN ?_;exact iP (((decide (a<(0:Int))) != (decide (b<(0:Int))))) () h SF Z
   refine aI Z<|aI Z<|aI Z<|aI Z<|aI Z<|eY Z<|aN ?_;exact iP (false) () h SF Z
  intro e i h;refine BF h Z (λ_ h=>?_) λ_ h=>?_
  ·refine aQ<|aA Z<|aD (q_ Z Z) Z<|aC Z<|aN ?_;exact iP (wI .i64 ((wI .i64 (Int.tdiv a b)) - (1:Int))) () h SF Z
  refine cT ?_;exact iP (wI .i64 (Int.tdiv a b)) () h SF Z
 intro d g h;unfold pS at h;refine aP<|aA Z<|aC Z<|aN<|aV ?_;cases h;exact lL Z
def uC (U:Nat) (c:Int) (a:Int) (b:Int):Option (Bool):=
 if c=(35:Int)then(some (decide (a=b)))else(if c=(36:Int)then(some (decide (a≠b)))else(if c=(37:Int)then(some (decide (a<b)))else(if c=(38:Int)then(some (decide (a<=b)))else(if c=(39:Int)then(some (decide (b<a)))else(some (decide (b<=a)))))))
theorem XH:aR Tryz.prog 294:=Tryz.call294
theorem HE (U:Nat) {a:Int} {b:Int} {d:Int} (r:Bool) (h:uC U a b d=some r):
  aW Tryz.prog 294 #[vI (a),vI (b),vI (d)] [] (λx:Unit=>vB (r)) (λx l=>l) (λ_ l=>l):=by
 refine aW.of Tryz.func294 Z Tryz.ntmps294 Z λc=>?_;refine aP<|aC Z<|aN<|aM<|aP<|aA Z<|aN<|aT<|aP<|bR Z<|aC Z<|aN ?_;refine dK h Z (λh=>?_) λh=>?_
 ·refine aP<|aA Z<|aA Z<|bR Z<|aC Z<|aN<|aV<|bS<|aK ?_;cases h;exact lL Z
 refine aP<|bR Z<|aC Z<|aN ?_;refine dK h Z (λh=>?_) λh=>?_
 ·refine aP<|aA Z<|aA Z<|p_ Z<|aC Z<|aN<|aV<|bS<|aK ?_;cases h;exact lL Z
 refine aP<|bR Z<|aC Z<|aN ?_;refine dK h Z (λh=>?_) λh=>?_
 ·refine aP<|aA Z<|aA Z<|cW Z<|aC Z<|aN<|aV<|bS<|aK ?_;cases h;exact lL Z
 refine aP<|bR Z<|aC Z<|aN ?_;refine dK h Z (λh=>?_) λh=>?_
 ·refine aP<|aA Z<|aA Z<|aD (A_ Z Z) Z<|aC Z<|aN<|aV<|bS<|aK ?_;cases h;exact lL Z
 refine aP<|bR Z<|aC Z<|aN ?_;refine dK h Z (λh=>?_) λh=>?_
 ·refine aP<|aA Z<|aA Z<|aD (zO Z Z) Z<|aC Z<|aN<|aV<|bS<|aK ?_;cases h;exact lL Z
 refine dR<|oP<|aP<|aA Z<|aA Z<|aD (Eb Z Z) Z<|aC Z<|aN<|aV ?_;cases h;exact lL Z
def pQ  (a:Int):Option (Int):=
 some (a)
def pR  (a:Int):Option (Int):=
 some (a)
def xI (U:Nat) (c:Int) (b:Int) (a:Int):Option (Int):=
 if c=(30:Int)then(Option.bind (jC U (wI .i64 (b*a))) λn=>(some (n)))else(if c=(31:Int)then(Option.bind (qN U b a) λo=>(Option.bind (jC U o) λp=>(some (p))))else(if c=(32:Int)then(if a=(0:Int)then(some (0:Int))else(Option.bind (qN U b a) λd=>(Option.bind (jC U (wI .i64 (b - (wI .i64 (a*d))))) λe=>(some (e)))))else(if c=(33:Int)then(Option.bind (jC U (wI .i64 (b+a))) λf=>(some (f)))else(if c=(34:Int)then(Option.bind (jC U (wI .i64 (b - a))) λg=>(some (g)))else(if c=(41:Int)then(if b≠(0:Int)then(Option.bind (iO U (decide (a≠(0:Int)))) λh=>(pQ  (h)))else(Option.bind (iO U false) λi=>(pQ  (i))))else(if c=(42:Int)then(if b≠(0:Int)then(Option.bind (iO U true) λj=>(pR  (j)))else(Option.bind (iO U (decide (a≠(0:Int)))) λk=>(pR  (k))))else(Option.bind (uC U c b a) λl=>(Option.bind (iO U l) λm=>(some (m))))))))))
theorem XE:aR Tryz.prog 283:=Tryz.call283
theorem JP (U:Nat) {E:Int} {F:Int} {G:Int} (r:Int) (h:xI U E F G=some r):
  aW Tryz.prog 283 #[vI (E),vI (F),vI (G)] [] (λx:Unit=>vI (r)) (λx l=>l) (λ_ l=>l):=by
 refine aW.of Tryz.func283 Z Tryz.ntmps283 Z λc=>?_;refine aP<|aC Z<|aN<|aM<|aP<|aA Z<|aN<|aT<|aP<|bR Z<|aC Z<|aN ?_;refine dK h Z (λh=>?_) λh=>?_
 ·refine aP<|aA Z<|aA Z<|aD (yG Z Z) Z<|fE h λH K h=>aH (aL.callQ Dr (mU U  H K) Z .nil) Z λY=>aC Z<|aN<|aV<|bS<|aK ?_;cases h;exact lL Z
 refine aP<|bR Z<|aC Z<|aN ?_;refine dK h Z (λh=>?_) λh=>?_
 ·refine aP<|aA Z<|aA Z<|fE h λI L h=>aH (aL.callQ Qy (Co U  I L) Z .nil) Z λx8=>fE h λJ s h=>aH (aL.callQ Dr (mU U  J s) Z .nil) Z λM=>aC Z<|aN<|aV<|bS<|aK ?_;cases h;exact lL Z
 refine aP<|bR Z<|aC Z<|aN ?_;refine dK h Z (λh=>?_) λh=>?_
 ·refine aM<|aP<|aA Z<|bR Z<|aN ?_;refine dK h Z (λh=>?_) λh=>?_
  ·refine aP<|aC Z<|aN<|aV<|aK<|bS<|aK ?_;cases h;exact lL Z
  refine cT<|aP<|aA Z<|aA Z<|aA Z<|aA Z<|fE h λk t h=>aH (aL.callQ Qy (Co U  k t) Z .nil) Z λN=>aD (yG Z Z) Z<|aD (q_ Z Z) Z<|fE h λm u h=>aH (aL.callQ Dr (mU U  m u) Z .nil) Z λO=>aC Z<|aN<|aV<|bS<|aK ?_;cases h;exact lL Z
 refine aP<|bR Z<|aC Z<|aN ?_;refine dK h Z (λh=>?_) λh=>?_
 ·refine aP<|aA Z<|aA Z<|cJ Z<|fE h λn v h=>aH (aL.callQ Dr (mU U  n v) Z .nil) Z λP=>aC Z<|aN<|aV<|bS<|aK ?_;cases h;exact lL Z
 refine aP<|bR Z<|aC Z<|aN ?_;refine dK h Z (λh=>?_) λh=>?_
 ·refine aP<|aA Z<|aA Z<|aD (q_ Z Z) Z<|fE h λo w h=>aH (aL.callQ Dr (mU U  o w) Z .nil) Z λQ=>aC Z<|aN<|aV<|bS<|aK ?_;cases h;exact lL Z
 refine aP<|bR Z<|aC Z<|aN ?_;refine dK h Z (λh=>?_) λh=>?_
 ·refine aM<|fF (λa=>pQ  a=some r) (λa d=>[(6,vI (a))]) (λa d=>[]) ?_ ?_
  ·refine aQ<|aA Z<|p_ Z<|aA Z ?_;refine CP h Z (λ_ h=>?_) λ_ h=>?_
   ·refine eP Z<|aU Z (Kd Z Z) Z<|eR Z<|fE h λf y h=>aH (aL.callQ xF (kY U  f y) Z .nil) Z λR=>aC Z<|aN ?_;exact iP (f) () h SF Z
   refine aI Z<|aI Z<|eY Z<|fE h λg z h=>aH (aL.callQ xF (kY U  g z) Z .nil) Z λS=>aC Z<|aN ?_;exact iP (g) () h SF Z
  intro a d h;unfold pQ at h;refine aV<|bS<|aK ?_;cases h;exact lL Z
 refine aP<|bR Z<|aC Z<|aN ?_;refine dK h Z (λh=>?_) λh=>?_
 ·refine aM<|fF (λb=>pR  b=some r) (λb e=>[(6,vI (b))]) (λb e=>[]) ?_ ?_
  ·refine aQ<|aA Z<|p_ Z<|aA Z ?_;refine CP h Z (λ_ h=>?_) λ_ h=>?_
   ·refine aI Z<|aI Z<|eR Z<|fE h λi A h=>aH (aL.callQ xF (kY U  i A) Z .nil) Z λT=>aC Z<|aN ?_;exact iP (i) () h SF Z
   refine eP Z<|aU Z (Kd Z Z) Z<|eY Z<|fE h λj B h=>aH (aL.callQ xF (kY U  j B) Z .nil) Z λV=>aC Z<|aN ?_;exact iP (j) () h SF Z
  intro b e h;unfold pR at h;refine aV<|bS<|aK ?_;cases h;exact lL Z
 refine dR<|oP<|aP<|aA Z<|aA Z<|aA Z<|fE h λp C h=>aH (aL.callQ XH (HE U  p C) Z .nil) Z λW=>fE h λq D h=>aH (aL.callQ xF (kY U  q D) Z .nil) Z λX=>aC Z<|aN<|aV ?_;cases h;exact lL Z
def xG  (a:Int):Option (Int):=
 some (a)
def tE (c:dQ) (b:dY->Option (Int)) (a:Int):Option (Int):=
 b (a,(wI .i64 (c.2+(1:Int))))
def qV (c:aS) (a:dQ) (b:dY->Option (Int)):Option (Int):=
 if a.2<(List.length c:Int)then(ck (0<=a.2∧a.2<(List.length c:Int)) (if(at' c a.2)≠(0:Int)then(tE a b (wI .i64 (a.1+(1:Int))))else(tE a b (a.1))))else(xG  (a.1))
def qF (U:Nat) (a:aS):Option (Int):=
 bP (qV a) U ((0:Int),(0:Int))
theorem Lm:aR Tryz.prog 298:=Tryz.call298
theorem B_ (U:Nat) {d:aS} (i:Value) (r:Int) (h:qF U d=some r):
  aW Tryz.prog 298 #[i] [Sl bJ i d] (λx:Unit=>vI (r)) (λx l=>l) (λ_ l=>l):=by
 refine aW.of Tryz.func298 Z Tryz.ntmps298 Z λc=>?_;unfold qF at h;refine aP<|aC Z<|aN<|aP<|aC Z<|aN<|aM<|fF (λe=>xG  e=some r) (λe j=>[(3,vI (e))]) (λe j=>[]) ?_ ?_
 ·refine aP<|aA Z<|jS (aF.fact 0 Z) Z<|aA Z<|aN<|aT<|fJ (qV d) (λb k=>[(3,vI (b.1)),(6,i),(7,vI (List.length d:Int)),(8,vI (b.2))]) (λb k=>[]) ((0:Int),(0:Int)) () h SF (bA.refl _) ?_;intro m b k h;refine aP<|cW Z<|aN<|aM ?_;refine dK h Z (λh=>?_) λh=>?_
  ·refine cT<|aM<|fF (λa=>tE b (bP (qV d) m) a=some r) (λa f=>[(3,vI (a)),(6,i),(7,vI (List.length d:Int)),(8,vI (b.2))]) (λa f=>[]) ?_ ?_
   ·refine aT<|aP<|eH h λg h=>aD (bK Z Z (aF.fact 0 Z) Z Z g) Z<|aD (cQ Z (aF.fact 0 Z) Z Z Z fG g) Z<|aC Z<|aN<|aP<|aA Z<|p_ Z<|aN ?_;refine dK h Z (λh=>?_) λh=>?_
    ·refine aQ<|aA Z<|cJ Z<|aC Z<|eN<|oP ?_;exact iP (wI .i64 (b.1+(1:Int))) () h SF Z
    refine dR<|oP ?_;exact iP (b.1) () h SF Z
   intro a f h;unfold tE at h;refine aQ<|cJ Z<|aA Z<|aN ?_;exact AX (a,(wI .i64 (b.2+(1:Int)))) () h SF Z
  refine gX ?_;exact iP (b.1) () h SF Z
 intro e j h;unfold xG at h;refine aP<|aA Z<|aC Z<|aN<|aV ?_;cases h;exact lL Z
def pI  (a:Unit):Option (Int):=
 some (-1:Int)
def fR (c:aS) (e:Int->Option Bool) (a:Int) (b:(Int)->Option (Int)):Option (Int):=
 if a<(List.length c:Int)then(ck (0<=a∧a<(List.length c:Int)) (Option.bind (e (at' c a)) λd=>(if d=true then(some (a))else(b (wI .i64 (a+(1:Int)))))))else(pI  (()))
def nL (U:Nat) (b:aS) (a:Int->Option Bool):Option (Int):=
 bP (fR b a) U (0:Int)
theorem XI:aR Tryz.prog 299:=Tryz.call299
theorem EO (U:Nat) {b:aS} {o:Int->Option Bool} (k:FuncId) (a:gQ) (j:List aY) (e:aR Tryz.prog k) (f:∀(t:Int) (r:Bool),o t=some r->aW Tryz.prog k ([vI (t)]++a).toArray j (λ_:Unit=>vB (r)) (λ_ l=>l) (λ_ l=>l)) (i:Value) (r:Int) (h:nL U b o=some r):
  aW Tryz.prog 299 #[i,Value.func (.func k) #[] (a).toArray] ([Sl bJ i b]++j) (λx:Unit=>vI (r)) (λx l=>l) (λ_ l=>l):=by
 refine aW.of Tryz.func299 Z Tryz.ntmps299 Z λc=>?_;unfold nL at h;refine aP<|aC Z<|aN<|aM<|sX (B:=Unit) (λg=>pI  g=some r) (λg m=>[]) (λg m=>[]) (λg m=>([Sl bJ i b]++j)) ?_ ?_
 ·refine aP<|aA Z<|jS (aF.fact 0 Z) Z<|aA Z<|aN<|aT<|Dn (B:=Unit) (fR b o) (λd n=>[(0,i),(1,Value.func (.func k) #[] (a).toArray),(7,vI (List.length b:Int)),(8,vI (d))]) (λd n=>[]) (λd n=>([Sl bJ i b]++j)) (0:Int) () h SF (bA.refl _) (aE.refl _ _) ?_;intro v d n h;refine aP<|cW Z<|aN<|aM ?_;refine dK h Z (λh=>?_) λh=>?_
  ·refine cT<|aM<|aT<|aP<|aA Z<|aC Z<|aN<|aP<|aA Z<|aA Z<|aA Z<|eH h λs h=>aD (bK Z Z (aF.fact 0 Z) Z Z s) Z<|aD (cQ Z (aF.fact 0 Z) Z Z Z fG s) Z<|fE h λp q h=>aH (rP (vs:=[vI (at' b d)]) (cs:=a) e Z (f (at' b d) p q) Z (aE.tail _) (λ_ _=>rfl)) Z λu=>aN ?_;refine BF h Z (λ_ h=>?_) λ_ h=>?_
   ·refine aP<|aA Z<|aC Z<|aN<|aV<|bS<|aK<|aK<|bS<|aK ?_;cases h;exact lL Z
   refine dR<|oP<|aQ<|cJ Z<|aA Z<|aN ?_;exact AX (wI .i64 (d+(1:Int))) () h SF Z
  refine gX ?_;exact iP () (()) h SF Z
 intro g m h;unfold pI at h;refine aP<|aC Z<|aN<|aV ?_;cases h;exact lL Z
def oW (U:Nat) (a:Int):Option (Bool):=
 some (decide (a≠(0:Int)))
theorem XJ:aR Tryz.prog 300:=Tryz.call300
theorem JQ (U:Nat) {a:Int} (r:Bool) (h:oW U a=some r):
  aW Tryz.prog 300 #[vI (a)] [] (λx:Unit=>vB (r)) (λx l=>l) (λ_ l=>l):=by
 refine aW.of Tryz.func300 Z Tryz.ntmps300 Z λc=>?_;unfold oW at h;refine aP<|aC Z<|aN<|aP<|aA Z<|p_ Z<|aC Z<|aN<|aV ?_;cases h;exact lL Z
def s_  (a:dQ):Option dY:=
 some (a.1,a.2)
def pF (c:Int×Int×Int) (b:(Int×Int×Int)->Option dY) (a:dQ):Option dY:=
 b (a.1,a.2,(wI .i64 (c.2.2+(1:Int))))
def tA (c:aS) (a:Int×Int×Int) (b:(Int×Int×Int)->Option dY):Option dY:=
 if a.2.2<(List.length c:Int)then(ck (0<=a.2.2∧a.2.2<(List.length c:Int)) (if a.1<(at' c a.2.2)then(pF a b ((at' c a.2.2),a.1))else(pF a b (a.1,(max a.2.1 (at' c a.2.2))))))else(s_  (a.1,a.2.1))
def qG (U:Nat) (a:aS):Option dY:=
 bP (tA a) U ((-1073741824:Int),(-1073741824:Int),(0:Int))
theorem Qz:aR Tryz.prog 301:=Tryz.call301
theorem Ae (U:Nat) {d:aS} (j:Value) (r:dQ) (h:qG U d=some r):
  aW Tryz.prog 301 #[j] [Sl bJ j d] (λx:Unit=>Value.tuple #[vI (r.1),vI (r.2)]) (λx l=>l) (λ_ l=>l):=by
 refine aW.of Tryz.func301 Z Tryz.ntmps301 Z λc=>?_;unfold qG at h;refine aP<|aC Z<|aC Z<|aN<|aP<|aC Z<|aC Z<|aN<|aM<|fF (λe=>s_  e=some r) (λe m=>[(2,vI (e.1)),(3,vI (e.2))]) (λe m=>[]) ?_ ?_
 ·refine aP<|aA Z<|jS (aF.fact 0 Z) Z<|aA Z<|aN<|aT<|fJ (tA d) (λb f=>[(2,vI (b.1)),(3,vI (b.2.1)),(6,j),(7,vI (List.length d:Int)),(8,vI (b.2.2))]) (λb f=>[]) ((-1073741824:Int),(-1073741824:Int),(0:Int)) () h SF (bA.refl _) ?_;intro k b f h;refine aP<|cW Z<|aN<|aM ?_;refine dK h Z (λh=>?_) λh=>?_
  ·refine cT<|aM<|fF (λa=>pF b (bP (tA d) k) a=some r) (λa g=>[(2,vI (a.1)),(3,vI (a.2)),(6,j),(7,vI (List.length d:Int)),(8,vI (b.2.2))]) (λa g=>[]) ?_ ?_
   ·refine aT<|aP<|eH h λi h=>aD (bK Z Z (aF.fact 0 Z) Z Z i) Z<|aD (cQ Z (aF.fact 0 Z) Z Z Z fG i) Z<|aC Z<|aN<|aP<|aA Z<|aA Z<|aD (zO Z Z) Z<|aN ?_;refine dK h Z (λh=>?_) λh=>?_
    ·refine aQ<|aA Z<|aA Z<|aC Z<|aC Z<|eN<|oP ?_;exact iP ((at' d b.2.2),b.1) () h SF Z
    refine aQ<|aA Z<|aA Z<|aD (Ir Z Z) Z<|aC Z<|eN<|oP ?_;exact iP (b.1,(max b.2.1 (at' d b.2.2))) () h SF Z
   intro a g h;unfold pF at h;refine aQ<|cJ Z<|aA Z<|aN ?_;exact AX (a.1,a.2,(wI .i64 (b.2.2+(1:Int)))) () h SF Z
  refine gX ?_;exact iP (b.1,b.2.1) () h SF Z
 intro e m h;unfold s_ at h;refine aP<|aA Z<|aA Z<|aC Z<|aC Z<|aN<|aV ?_;cases h;exact iA () Z Z (RV.tmp Z) (RV.tmp Z) (bA.refl _) aE.nil
def uH  (a:Unit):Option (Int):=
 some (-1:Int)
def kC (c:aS) (d:Int) (a:Int) (b:(Int)->Option (Int)):Option (Int):=
 if a<(List.length c:Int)then(ck (0<=a∧a<(List.length c:Int)) (if d=(at' c a)then(some (a))else(b (wI .i64 (a+(1:Int))))))else(uH  (()))
def pX (U:Nat) (a:aS) (b:Int):Option (Int):=
 bP (kC a b) U (0:Int)
theorem WW:aR Tryz.prog 113:=Tryz.call113
theorem Js (U:Nat) {d:aS} {e:Int} (f:Value) (r:Int) (h:pX U d e=some r):
  aW Tryz.prog 113 #[f,vI (e)] [Sl bJ f d] (λx:Unit=>vI (r)) (λx l=>l) (λ_ l=>l):=by
 refine aW.of Tryz.func113 Z Tryz.ntmps113 Z λc=>?_;unfold pX at h;refine aP<|aC Z<|aN<|aM<|fF (λa=>uH  a=some r) (λa g=>[]) (λa g=>[]) ?_ ?_
 ·refine aP<|aA Z<|jS (aF.fact 0 Z) Z<|aA Z<|aN<|aT<|fJ (kC d e) (λb i=>[(0,f),(1,vI (e)),(7,vI (List.length d:Int)),(8,vI (b))]) (λb i=>[]) (0:Int) () h SF (bA.refl _) ?_;intro k b i h;refine aP<|cW Z<|aN<|aM ?_;refine dK h Z (λh=>?_) λh=>?_
  ·refine cT<|aM<|aT<|aP<|aA Z<|aC Z<|aN<|aP<|aA Z<|aA Z<|aA Z<|eH h λj h=>aD (bK Z Z (aF.fact 0 Z) Z Z j) Z<|aD (cQ Z (aF.fact 0 Z) Z Z Z fG j) Z<|bR Z<|aN ?_;refine dK h Z (λh=>?_) λh=>?_
   ·refine aP<|aA Z<|aC Z<|aN<|aV<|bS<|aK<|aK<|bS<|aK ?_;cases h;exact lL Z
   refine dR<|oP<|aQ<|cJ Z<|aA Z<|aN ?_;exact AX (wI .i64 (b+(1:Int))) () h SF Z
  refine gX ?_;exact iP () (()) h SF Z
 intro a g h;unfold uH at h;refine aP<|aC Z<|aN<|aV ?_;cases h;exact lL Z
def rI (U:Nat) (a:aS) (b:Int):Option (Bool):=
 Option.bind (pX U a b) λc=>(some (decide ((0:Int)<=c)))
theorem XL:aR Tryz.prog 306:=Tryz.call306
theorem FU (U:Nat) {b:aS} {d:Int} (a:Value) (r:Bool) (h:rI U b d=some r):
  aW Tryz.prog 306 #[a,vI (d)] [Sl bJ a b] (λx:Unit=>vB (r)) (λx l=>l) (λ_ l=>l):=by
 refine aW.of Tryz.func306 Z Tryz.ntmps306 Z λc=>?_;refine aP<|aC Z<|aN<|aP<|aA Z<|aA Z<|fE h λe f h=>aH (aL.callQ WW (Js U a e f) Z (mK [0] Z)) Z λg=>aD (Eb Z Z) Z<|aC Z<|aN<|aV ?_;cases h;exact lL Z
def Aw  (a:Int):Option (Int):=
 some (a)
def xV (U:Nat) (c:aS) (a:Int) (b:(Int)->Option (Int)):Option (Int):=
 Option.bind (rI U c a) λd=>(if d=true then(b (wI .i64 (a+(1:Int))))else(Aw  (a)))
def zV (U:Nat) (a:aS):Option (Int):=
 bP (xV U a) U (0:Int)
theorem XK:aR Tryz.prog 302:=Tryz.call302
theorem PR (U:Nat) {e:aS} (d:Value) (r:Int) (h:zV U e=some r):
  aW Tryz.prog 302 #[d] [Sl bJ d e] (λx:Unit=>vI (r)) (λx l=>l) (λ_ l=>l):=by
 refine aW.of Tryz.func302 Z Tryz.ntmps302 Z λc=>?_;unfold zV at h;refine aP<|aC Z<|aN<|aP<|aC Z<|aN<|aM<|fF (λa=>Aw  a=some r) (λa g=>[(3,vI (a))]) (λa g=>[]) ?_ ?_
 ·refine aT<|fJ (xV U e) (λb i=>[(0,d),(3,vI (b))]) (λb i=>[]) (0:Int) () h SF (bA.refl _) ?_;intro m b i h;refine aM<|aP<|aA Z<|aA Z<|fE h λj f h=>aH (aL.callQ XL (FU U d j f) Z (mK [0] Z)) Z λk=>aN ?_;refine BF h Z (λ_ h=>?_) λ_ h=>?_
  ·refine cT<|aT<|aQ<|aA Z<|cJ Z<|aC Z<|eN<|oP ?_;exact AX (wI .i64 (b+(1:Int))) () h SF Z
  refine gX ?_;exact iP (b) () h SF Z
 intro a g h;unfold Aw at h;refine aP<|aA Z<|aC Z<|aN<|aV ?_;cases h;exact lL Z
def y_  (a:Int):Option (Int):=
 some (a)
def sK (c:aS) (a:dQ) (b:dY->Option (Int)):Option (Int):=
 if a.2<(List.length c:Int)then(ck (0<=a.2∧a.2<(List.length c:Int)) (b ((min a.1 (at' c a.2)),(wI .i64 (a.2+(1:Int))))))else(y_  (a.1))
def BJ (U:Nat) (a:Int):Option (Int):=
 Option.bind (jC U a) λb=>(some (b))
def sL (U:Nat) (c:aS) (a:dQ) (b:dY->Option (Int)):Option (Int):=
 if a.2<(List.length c:Int)then(ck (0<=a.2∧a.2<(List.length c:Int)) (b ((wI .i64 (a.1+(at' c a.2))),(wI .i64 (a.2+(1:Int))))))else(BJ U (a.1))
def Az (U:Nat) (b:Int) (a:aS):Option (Int):=
 if b=(20:Int)then(Option.bind (qF U a) λi=>(Option.bind (iO U (decide (i=(List.length a:Int)))) λj=>(some (j))))else(if b=(21:Int)then(Option.bind (qF U a) λk=>(Option.bind (iO U (decide ((0:Int)<k))) λc=>(some (c))))else(if b=(22:Int)then(Option.bind (qF U a) λd=>(some (d)))else(if b=(23:Int)then(Option.bind (nL U a (λl=>oW U l)) λe=>(some (e)))else(if b=(24:Int)then(bP (sK a) U ((1073741824:Int),(0:Int)))else(if b=(25:Int)then(Option.bind (qG U a) λf=>(some (f.1)))else(if b=(26:Int)then(bP (sL U a) U ((0:Int),(0:Int)))else(if b=(27:Int)then(Option.bind (zV U a) λg=>(some (g)))else(if b=(28:Int)then(Option.bind (qG U a) λh=>(some (h.2)))else(if(List.length a:Int)=(0:Int)then(some (0:Int))else(ck (0<=(0:Int)∧(0:Int)<(List.length a:Int)) (some (at' a (0:Int)))))))))))))
theorem XG:aR Tryz.prog 291:=Tryz.call291
theorem NV (U:Nat) {H:Int} {g:aS} (f:Value) (r:Int) (h:Az U H g=some r):
  aW Tryz.prog 291 #[vI (H),f] [Sl bJ f g] (λx:Unit=>vI (r)) (λx l=>l) (λ_ l=>l):=by
 refine aW.of Tryz.func291 Z Tryz.ntmps291 Z λc=>?_;refine aP<|aC Z<|aN<|aM<|aP<|aA Z<|aN<|aT<|aP<|bR Z<|aC Z<|aN ?_;refine dK h Z (λh=>?_) λh=>?_
 ·refine aP<|aA Z<|fE h λK N h=>aH (aL.callQ Lm (B_ U f K N) Z (mK [0] Z)) Z λY=>aA Z<|jS (aF.fact 0 Z) Z<|bR Z<|fE h λL O h=>aH (aL.callQ xF (kY U  L O) Z .nil) Z λx7=>aC Z<|aN<|aV<|bS<|aK ?_;cases h;exact lL Z
 refine aP<|bR Z<|aC Z<|aN ?_;refine dK h Z (λh=>?_) λh=>?_
 ·refine aP<|aA Z<|fE h λM z h=>aH (aL.callQ Lm (B_ U f M z) Z (mK [0] Z)) Z λP=>aD (zO Z Z) Z<|fE h λq A h=>aH (aL.callQ xF (kY U  q A) Z .nil) Z λQ=>aC Z<|aN<|aV<|bS<|aK ?_;cases h;exact lL Z
 refine aP<|bR Z<|aC Z<|aN ?_;refine dK h Z (λh=>?_) λh=>?_
 ·refine aP<|aA Z<|fE h λs B h=>aH (aL.callQ Lm (B_ U f s B) Z (mK [0] Z)) Z λR=>aC Z<|aN<|aV<|bS<|aK ?_;cases h;exact lL Z
 refine aP<|bR Z<|aC Z<|aN ?_;refine dK h Z (λh=>?_) λh=>?_
 ·refine aP<|aA Z<|fE h λt C h=>aH (aL.callQ XI (EO U 300 [] [] XJ (λy0 r h=>JQ U  r h) f t C) Z (mK [0] Z)) Z λS=>aC Z<|aN<|aV<|bS<|aK ?_;cases h;exact lL Z
 refine aP<|bR Z<|aC Z<|aN ?_;refine dK h Z (λh=>?_) λh=>?_
 ·refine aP<|aC Z<|aN<|aM<|fF (λd=>y_  d=some r) (λd i=>[(5,vI (d))]) (λd i=>[]) ?_ ?_
  ·refine aP<|aA Z<|jS (aF.fact 0 Z) Z<|aA Z<|aN<|aT<|fJ (sK g) (λa j=>[(5,vI (a.1)),(40,f),(41,vI (List.length g:Int)),(42,vI (a.2))]) (λa j=>[]) ((1073741824:Int),(0:Int)) () h SF (bA.refl _) ?_;intro I a j h;refine aP<|cW Z<|aN<|aM ?_;refine dK h Z (λh=>?_) λh=>?_
   ·refine cT<|aM<|aT<|aP<|eH h λn h=>aD (bK Z Z (aF.fact 0 Z) Z Z n) Z<|aD (cQ Z (aF.fact 0 Z) Z Z Z fG n) Z<|aC Z<|aN<|aQ<|aA Z<|aA Z<|aD (Zc Z Z) Z<|aC Z<|eN<|oP<|aQ<|cJ Z<|aA Z<|aN ?_;exact AX ((min a.1 (at' g a.2)),(wI .i64 (a.2+(1:Int)))) () h SF Z
   refine gX ?_;exact iP (a.1) () h SF Z
  intro d i h;unfold y_ at h;refine aP<|aA Z<|aC Z<|aN<|aV<|bS<|aK ?_;cases h;exact lL Z
 refine aP<|bR Z<|aC Z<|aN ?_;refine dK h Z (λh=>?_) λh=>?_
 ·refine aP<|aA Z<|fE h λu D h=>aH (aL.callQ Qz (Ae U f u D) Z (mK [0] Z)) Z λT=>aA Z<|gA Z<|gA Z<|aC Z<|aC Z<|aN<|aP<|aA Z<|aC Z<|aN<|aV<|bS<|aK ?_;cases h;exact lL Z
 refine aP<|bR Z<|aC Z<|aN ?_;refine dK h Z (λh=>?_) λh=>?_
 ·refine aP<|aC Z<|aN<|aM<|fF (λe=>BJ U e=some r) (λe k=>[(10,vI (e))]) (λe k=>[]) ?_ ?_
  ·refine aP<|aA Z<|jS (aF.fact 0 Z) Z<|aA Z<|aN<|aT<|fJ (sL U g) (λb m=>[(10,vI (b.1)),(61,f),(62,vI (List.length g:Int)),(63,vI (b.2))]) (λb m=>[]) ((0:Int),(0:Int)) () h SF (bA.refl _) ?_;intro J b m h;refine aP<|cW Z<|aN<|aM ?_;refine dK h Z (λh=>?_) λh=>?_
   ·refine cT<|aM<|aT<|aP<|eH h λo h=>aD (bK Z Z (aF.fact 0 Z) Z Z o) Z<|aD (cQ Z (aF.fact 0 Z) Z Z Z fG o) Z<|aC Z<|aN<|aQ<|aA Z<|aA Z<|cJ Z<|aC Z<|eN<|oP<|aQ<|cJ Z<|aA Z<|aN ?_;exact AX ((wI .i64 (b.1+(at' g b.2))),(wI .i64 (b.2+(1:Int)))) () h SF Z
   refine gX ?_;exact iP (b.1) () h SF Z
  intro e k h;refine aP<|aA Z<|fE h λv E h=>aH (aL.callQ Dr (mU U  v E) Z .nil) Z λV=>aC Z<|aN<|aV<|bS<|aK ?_;cases h;exact lL Z
 refine aP<|bR Z<|aC Z<|aN ?_;refine dK h Z (λh=>?_) λh=>?_
 ·refine aP<|aA Z<|fE h λw F h=>aH (aL.callQ XK (PR U f w F) Z (mK [0] Z)) Z λW=>aC Z<|aN<|aV<|bS<|aK ?_;cases h;exact lL Z
 refine aP<|bR Z<|aC Z<|aN ?_;refine dK h Z (λh=>?_) λh=>?_
 ·refine aP<|aA Z<|fE h λy G h=>aH (aL.callQ Qz (Ae U f y G) Z (mK [0] Z)) Z λX=>aA Z<|gA Z<|gA Z<|aC Z<|aC Z<|aN<|aP<|aA Z<|aC Z<|aN<|aV<|bS<|aK ?_;cases h;exact lL Z
 refine dR<|oP<|aM<|aP<|aA Z<|jS (aF.fact 0 Z) Z<|bR Z<|aN ?_;refine dK h Z (λh=>?_) λh=>?_
 ·refine aP<|aC Z<|aN<|aV<|aK ?_;cases h;exact lL Z
 refine cT<|aP<|aA Z<|eH h λp h=>aD (bK Z Z (aF.fact 0 Z) Z Z p) Z<|aD (cQ Z (aF.fact 0 Z) Z Z Z fG p) Z<|aC Z<|aN<|aV ?_;cases h;exact lL Z
def nR  (a:dQ):Option dY:=
 some (a.1,a.2)
def kI (U:Nat) (a:Mh) (e:Int) (b:Aj) (c:Int):Option dY:=
 ck (0<=(List.length (at' a.1.2.1.2 a.2.2.1):Int)∧(List.length (at' a.1.2.1.2 a.2.2.1):Int)<=((24:Nat):Int)∧(List.length (at' a.1.2.1.2 a.2.2.1):Int)<=(List.length b.2:Int)) (Option.bind (Az U ((at' a.2.2.2 e).1) (List.take (Int.toNat (List.length (at' a.1.2.1.2 a.2.2.1):Int)) b.2)) λd=>(nR  (d,c)))
def rA (U:Nat) (b:Mh) (c:Int) (a:Aj):Option dY:=
 if(List.length (at' b.1.2.1.2 b.2.2.1):Int)=(0:Int)then(Option.bind (BR U b.2.2.2 c) λd=>(kI U b c a (d)))else(kI U b c a (a.1))
def kJ (U:Nat) (b:Mh) (e:Int) (f:YR->Int->Int->Option dY) (a:Int×Int×aS) (c:(Int×Int×aS)->Option dY):Option dY:=
 if a.2.1<(List.length (at' b.1.2.1.2 b.2.2.1):Int)then(Option.bind (f ((((((b.1.1.1,b.1.1.2.1,b.1.1.2.2)),((b.1.2.1.1,b.1.2.1.2)),b.1.2.2.1,b.1.2.2.2)),b.2.1,b.2.2.1,b.2.2.2)) (wI .i64 (e+(1:Int))) a.2.1) λd=>(ck ((0<=a.2.1∧a.2.1<((24:Nat):Int))∧List.length a.2.2=24) (c (d.2,(wI .i64 (a.2.1+(1:Int))),(List.set a.2.2 (Int.toNat a.2.1) d.1)))))else(rA U b e (a.1,a.2.2))
def cR (e:YR->Int->Int->Option dY) (U:Nat) (a:Mh) (b:Int) (c:Int):Option dY:=
 ck (0<=b∧b<(List.length a.2.2.2:Int)) (if((at' a.2.2.2 b).1)<=(17:Int)then(Option.bind (mD U ((((((a.1.1.1,a.1.1.2.1,a.1.1.2.2)),((a.1.2.1.1,a.1.2.1.2)),a.1.2.2.1,a.1.2.2.2)),a.2.1,a.2.2.1,a.2.2.2)) ((((at' a.2.2.2 b).1),((at' a.2.2.2 b).2))) c) λm=>(some (m,(wI .i64 (b+(1:Int))))))else(if((at' a.2.2.2 b).1)<=(19:Int)then(Option.bind (e ((((((a.1.1.1,a.1.1.2.1,a.1.1.2.2)),((a.1.2.1.1,a.1.2.1.2)),a.1.2.2.1,a.1.2.2.2)),a.2.1,a.2.2.1,a.2.2.2)) (wI .i64 (b+(1:Int))) c) λl=>(Option.bind (zA U ((at' a.2.2.2 b).1) l.1) λj=>(some (j,l.2))))else(if((at' a.2.2.2 b).1)<=(29:Int)then(ck (0<=a.2.2.1∧a.2.2.1<(List.length a.1.2.1.2:Int)) (bP (kJ U a b e) U ((0:Int),(0:Int),(List.replicate 24 (0:Int)))))else(if((at' a.2.2.2 b).1)<=(42:Int)then(Option.bind (e ((((((a.1.1.1,a.1.1.2.1,a.1.1.2.2)),((a.1.2.1.1,a.1.2.1.2)),a.1.2.2.1,a.1.2.2.2)),a.2.1,a.2.2.1,a.2.2.2)) (wI .i64 (b+(1:Int))) c) λf=>(Option.bind (e ((((((a.1.1.1,a.1.1.2.1,a.1.1.2.2)),((a.1.2.1.1,a.1.2.1.2)),a.1.2.2.1,a.1.2.2.2)),a.2.1,a.2.2.1,a.2.2.2)) f.2 c) λg=>(Option.bind (xI U ((at' a.2.2.2 b).1) f.1 g.1) λk=>(some (k,g.2)))))else(Option.bind (e ((((((a.1.1.1,a.1.1.2.1,a.1.1.2.2)),((a.1.2.1.1,a.1.2.1.2)),a.1.2.2.1,a.1.2.2.2)),a.2.1,a.2.2.1,a.2.2.2)) (wI .i64 (b+(1:Int))) c) λh=>(Option.bind (e ((((((a.1.1.1,a.1.1.2.1,a.1.1.2.2)),((a.1.2.1.1,a.1.2.1.2)),a.1.2.2.1,a.1.2.2.2)),a.2.1,a.2.2.1,a.2.2.2)) h.2 c) λi=>(Option.bind (e ((((((a.1.1.1,a.1.1.2.1,a.1.1.2.2)),((a.1.2.1.1,a.1.2.1.2)),a.1.2.2.1,a.1.2.2.2)),a.2.1,a.2.2.1,a.2.2.2)) i.2 c) λd=>(if h.1≠(0:Int)then(some (i.1,d.2))else(some (d.1,d.2))))))))))
def bT:Nat->YR->Int->Int->Option dY
 |0,_,_,_=>none
 |U+1,p0,p1,p2=>cR (bT U) U p0 p1 p2
theorem Au:aR Tryz.prog 264:=Tryz.call264
theorem BZ (X:YR->Int->Int->Option dY) (U:Nat) (p:∀{a:Mh} {m:Int} {M:Int} (b:Nat)  (f:Nat)  (q:Value)  (s:Value)  (t:Value)  (u:Value)  (C:mV)  (v:Value)  (D:pA)  (w:Value)  (g:pA)  (d:Value) (r:dQ),X a m M=some r->aW Tryz.prog 264 #[vP b,vI (m),vI (M)] [bX b [vP f,w,vI (a.2.2.1),d] 255,bX f [vS (a.1.1.1),q,s,t,u,vI (a.1.2.2.1),v] 212,Sl aJ q a.1.1.2.1,Sl aG s a.1.1.2.2,Sl bJ t a.1.2.1.1,S2 bG u C a.1.2.1.2,S2 bJ v D a.1.2.2.2,S2 bJ w g a.2.1,Sl bG d a.2.2.2] (λx:Unit=>Value.tuple #[vI (r.1),vI (r.2)]) (λx l=>l) (λ_ l=>l)) {a:Mh} {m:Int} {M:Int} (b:Nat)  (f:Nat)  (q:Value)  (s:Value)  (t:Value)  (u:Value)  (C:mV)  (v:Value)  (D:pA)  (w:Value)  (g:pA)  (d:Value) (r:dQ) (h:cR X U a m M=some r):
  aW Tryz.prog 264 #[vP b,vI (m),vI (M)] [bX b [vP f,w,vI (a.2.2.1),d] 255,bX f [vS (a.1.1.1),q,s,t,u,vI (a.1.2.2.1),v] 212,Sl aJ q a.1.1.2.1,Sl aG s a.1.1.2.2,Sl bJ t a.1.2.1.1,S2 bG u C a.1.2.1.2,S2 bJ v D a.1.2.2.2,S2 bJ w g a.2.1,Sl bG d a.2.2.2] (λx:Unit=>Value.tuple #[vI (r.1),vI (r.2)]) (λx l=>l) (λ_ l=>l):=by
 refine aW.of Tryz.func264 Z Tryz.ntmps264 Z λc=>?_;refine aP<|aC Z<|aC Z<|aN<|aP<|aA Z<|aD (bW Z) Z<|bV Z<|aD (dU Z (aF.fact 0 Z) Z Z Z) Z<|aA Z<|eH h λj1 h=>aD (bK Z Z (aF.fact 8 Z) Z Z j1) Z<|aD (g_ (cs:=[vI ((at' a.2.2.2 m).1),vI ((at' a.2.2.2 m).2)]) Z (aF.fact 8 Z) bI Z Z Z Z j1) Z<|aH (aL.alloc (cs:=Ti) Z Z) Z λb2=>bO 0 (vs:=[vI ((at' a.2.2.2 m).1),vI ((at' a.2.2.2 m).2)]) Z Z Z Z Z Z<|aN<|aM<|aT<|aP<|bV Z<|dO 0 Z<|aD (A_ Z Z) Z<|aC Z<|aN ?_;refine dK h Z (λh=>?_) λh=>?_
 ·refine aP<|aA Z<|dC 0 Z<|aA Z<|fE h λr4 w5 h=>aH (aL.callQ XC (DV U b f q s t u C v D w g d r4 w5) Z (mK [0,1,2,3,4,5,6,7,8] Z)) Z λx6=>aA Z<|cJ Z<|aC Z<|aC Z<|aN<|aV<|bS<|aK ?_;cases h;exact iA () Z Z (RV.tmp Z) (RV.tmp Z) .nil aE.nil
 refine aP<|bV Z<|dO 0 Z<|aD (A_ Z Z) Z<|aC Z<|aN ?_;refine dK h Z (λh=>?_) λh=>?_
 ·refine aP<|aA Z<|aA Z<|cJ Z<|aA Z<|fE h λr8 w9 h=>aH (aL.callQ Au (p b f q s t u C v D w g d r8 w9) Z (mK [0,1,2,3,4,5,6,7,8] Z)) Z λak=>aA Z<|gA Z<|gA Z<|aC Z<|aC Z<|aN<|aP<|bV Z<|dO 0 Z<|aA Z<|fE h λP Y h=>aH (aL.callQ XD (L_ U  P Y) Z .nil) Z λal=>aA Z<|aC Z<|aC Z<|aN<|aV<|bS<|aK ?_;cases h;exact iA () Z Z (RV.tmp Z) (RV.tmp Z) .nil aE.nil
 refine aP<|bV Z<|dO 0 Z<|aD (A_ Z Z) Z<|aC Z<|aN ?_;refine dK h Z (λh=>?_) λh=>?_
 ·refine aP<|aA Z<|bV Z<|dO 0 Z<|aA Z<|Cz (A:=dQ) (B:=Unit) (vs:=[vP b,vI ((at' a.2.2.2 m).1),vI (m)]) (λn=>nR  n=some r) (λn G=>Value.tuple #[vI (n.1),vI (n.2)]) (λn G=>[]) (λn G=>[bX b [vP f,w,vI (a.2.2.1),d] 255,bX f [vS (a.1.1.1),q,s,t,u,vI (a.1.2.2.1),v] 212,Sl aJ q a.1.1.2.1,Sl aG s a.1.1.2.2,Sl bJ t a.1.2.1.1,S2 bG u C a.1.2.1.2,S2 bJ v D a.1.2.2.2,S2 bJ w g a.2.1,Sl bG d a.2.2.2]) (xR.fn (show aR Tryz.prog 282 from Tryz.call282) Z) Tryz.func282 Z Tryz.ntmps282 Z Z ?_ ?_
  ·refine aP<|aC Z<|aC Z<|aN<|aP ?_;refine aH (aL.alloc (cs:=cellsOf cI (List.replicate 24 (0:Int))) Z (by kernel_rfl)) Z λo=>?_;refine aN<|aM ?_;refine JR.start [0,1,3,7,15,31,63,127,0,256,768,1792,4095,8191,16383,32767] 12 mixedOrders (by decide +kernel) ?_;refine JR.open (by exact rfl) ?_;refine bD Z<|iB Z (bW Z)<|cH Z<|bL Z .nil (nW 0 Z) (dU Z (aF.fact 0 Z) Z Z Z) aO.z<|iB Z (bW Z)<|cH Z<|cH Z<|bL Z .nil (nW 1 Z) (dU Z (aF.fact 0 Z) Z Z Z) aO.z<|bD Z<|iB Z (bW Z)<|cH Z<|bL Z .nil (nW 0 Z) (dU Z (aF.fact 0 Z) Z Z Z) aO.z<|bQ 12 Z Z<|eH h λE h=>aD (cV Z Z (aF.fact 5 Z) Z Z E) Z<|aD (cX Z (aF.fact 5 Z) Z Z E) Z<|aD (kR Z (aF.el (aF.fact 5 Z) E.1 E.2) Z) Z<|aC Z<|aN<|aM<|fF (λk=>rA U a m k=some r) (λk H=>[(0,vP b),(1,vI ((at' a.2.2.2 m).1)),(2,vI (m)),(7,vI (k.1)),(8,vP o),(9,vI (List.length (at' a.1.2.1.2 a.2.2.1):Int))]) (λk H=>[bX o (cellsOf cI k.2) 160]) ?_ ?_
   ·refine aP<|aA Z<|aA Z<|aN<|aT<|fJ (kJ U a m X) (λj J=>[(0,vP b),(1,vI ((at' a.2.2.2 m).1)),(2,vI (m)),(7,vI (j.1)),(8,vP o),(9,vI (List.length (at' a.1.2.1.2 a.2.2.1):Int)),(26,vI (List.length (at' a.1.2.1.2 a.2.2.1):Int)),(27,vI (j.2.1))]) (λj J=>[bX o (cellsOf cI j.2.2) 160]) ((0:Int),(0:Int),(List.replicate 24 (0:Int))) () h SF (bA.ix [0] Z Z) ?_;intro aj j J h;refine aP<|cW Z<|aN<|aM ?_;refine dK h Z (λh=>?_) λh=>?_
    ·refine cT<|aM<|aT<|aP<|aA Z<|aC Z<|aN<|aQ<|aA Z<|aA Z<|aA Z<|cJ Z<|aA Z<|fE h λF ac h=>aH (aL.callQ Au (p b f q s t u C v D w g d F ac) Z (mK [0,1,2,3,4,5,6,7,8] Z)) Z λao=>aA Z<|gA Z<|gA Z<|eH h λL h=>aD (kQ Z Z Z Z Z L.1) Z<|Ep 0 (e:=cI) F.1 L Z Z Z Z Z Z Z<|aC Z<|eN<|oP<|aQ<|cJ Z<|aA Z<|aN ?_;exact AX (F.2,(wI .i64 (j.2.1+(1:Int))),(List.set j.2.2 (Int.toNat j.2.1) F.1)) () h SF Z
    refine gX ?_;exact iP (j.1,j.2.2) () h SF Z
   intro k H h;refine aM<|fF (λy=>kI U a m k y=some r) (λy I=>[(1,vI ((at' a.2.2.2 m).1)),(7,vI (y)),(8,vP o),(9,vI (List.length (at' a.1.2.1.2 a.2.2.1):Int))]) (λy I=>[bX o (cellsOf cI k.2) 160]) ?_ ?_
   ·refine aP<|aA Z<|bR Z<|aN ?_;refine dK h Z (λh=>?_) λh=>?_
    ·refine aQ<|aA Z<|aD (bW Z) Z<|bV Z<|aD (dU Z (aF.fact 0 Z) Z Z Z) Z<|aA Z<|fE h λO ab h=>aH (aL.callQ XA (PS U d O ab) Z (mK [8] Z)) Z λan=>aC Z<|aN ?_;exact iP (O) () h SF Z
    refine cT ?_;exact iP (k.1) () h SF Z
   intro y I h;refine aP<|aA Z<|aA Z<|eH h λK h=>aD (OQ Z Z Z Z K) Z<|fE h λN aa h=>aH (aL.callQ XG (NV U (Value.slice (some ⟨o,0,none⟩) (Int.toNat (List.length (at' a.1.2.1.2 a.2.2.1):Int)) 24) N aa) Z (aE.cons (TE (i:=0) Z dL K (by decide)) .nil)) Z λam=>?_;refine aA Z<|aC Z<|aC Z<|aN<|aV ?_;exact zJ (N,y) () h (.inl Z) (HM.r2 Z (RV.tmp Z) (RV.tmp Z)) Z .nil (aE.refl _ _)
  intro n G h;unfold nR at h;refine gA Z<|gA Z<|aC Z<|aC Z<|aN<|aV<|bS<|aK ?_;cases h;exact iA () Z Z (RV.tmp Z) (RV.tmp Z) (bA.refl _) aE.nil
 refine aP<|bV Z<|dO 0 Z<|aD (A_ Z Z) Z<|aC Z<|aN ?_;refine dK h Z (λh=>?_) λh=>?_
 ·refine aP<|aA Z<|aA Z<|cJ Z<|aA Z<|fE h λQ ad h=>aH (aL.callQ Au (p b f q s t u C v D w g d Q ad) Z (mK [0,1,2,3,4,5,6,7,8] Z)) Z λap=>aA Z<|gA Z<|gA Z<|aC Z<|aC Z<|aN<|aP<|aA Z<|aA Z<|aA Z<|fE h λR ae h=>aH (aL.callQ Au (p b f q s t u C v D w g d R ae) Z (mK [0,1,2,3,4,5,6,7,8] Z)) Z λaq=>aA Z<|gA Z<|gA Z<|aC Z<|aC Z<|aN<|aP<|bV Z<|dO 0 Z<|aA Z<|aA Z<|fE h λS af h=>aH (aL.callQ XE (JP U  S af) Z .nil) Z λar=>aA Z<|aC Z<|aC Z<|aN<|aV<|bS<|aK ?_;cases h;exact iA () Z Z (RV.tmp Z) (RV.tmp Z) .nil aE.nil
 refine dR<|oP<|aP<|aA Z<|aA Z<|cJ Z<|aA Z<|fE h λT ag h=>aH (aL.callQ Au (p b f q s t u C v D w g d T ag) Z (mK [0,1,2,3,4,5,6,7,8] Z)) Z λau=>aA Z<|gA Z<|gA Z<|aC Z<|aC Z<|aN<|aP<|aA Z<|aA Z<|aA Z<|fE h λV ah h=>aH (aL.callQ Au (p b f q s t u C v D w g d V ah) Z (mK [0,1,2,3,4,5,6,7,8] Z)) Z λav=>aA Z<|gA Z<|gA Z<|aC Z<|aC Z<|aN<|aP<|aA Z<|aA Z<|aA Z<|fE h λW ai h=>aH (aL.callQ Au (p b f q s t u C v D w g d W ai) Z (mK [0,1,2,3,4,5,6,7,8] Z)) Z λaw=>aA Z<|gA Z<|gA Z<|aC Z<|aC Z<|aN<|aM<|aP<|aA Z<|p_ Z<|aN ?_;refine dK h Z (λh=>?_) λh=>?_
 ·refine aP<|aA Z<|aA Z<|aC Z<|aC Z<|aN<|aV<|aK ?_;cases h;exact iA () Z Z (RV.tmp Z) (RV.tmp Z) .nil aE.nil
 refine cT<|aP<|aA Z<|aA Z<|aC Z<|aC Z<|aN<|aV ?_;cases h;exact iA () Z Z (RV.tmp Z) (RV.tmp Z) .nil aE.nil
theorem C_ (U:Nat):∀{a:Mh} {p:Int} {q:Int} (b:Nat)  (c:Nat)  (f:Value)  (g:Value)  (i:Value)  (j:Value)  (n:mV)  (k:Value)  (o:pA)  (m:Value)  (e:pA)  (d:Value) (r:dQ),bT U a p q=some r->
  aW Tryz.prog 264 #[vP b,vI (p),vI (q)] [bX b [vP c,m,vI (a.2.2.1),d] 255,bX c [vS (a.1.1.1),f,g,i,j,vI (a.1.2.2.1),k] 212,Sl aJ f a.1.1.2.1,Sl aG g a.1.1.2.2,Sl bJ i a.1.2.1.1,S2 bG j n a.1.2.1.2,S2 bJ k o a.1.2.2.2,S2 bJ m e a.2.1,Sl bG d a.2.2.2] (λx:Unit=>Value.tuple #[vI (r.1),vI (r.2)]) (λx l=>l) (λ_ l=>l):=by
 induction U with
 |zero=>intros;rename_i h;cases h
 |succ U s=>exact λb c f g i j n k o m e d r h=>BZ (bT U) U s b c f g i j n k o m e d r h
end Go.Proofs.YtjkjpdonlpdcaaaGreatDoor