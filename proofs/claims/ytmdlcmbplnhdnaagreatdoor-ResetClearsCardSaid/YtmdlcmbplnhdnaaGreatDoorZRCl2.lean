/- Models and proofs. Conditions: none. -/
import Derived.Test.YtmdlcmbplnhdnaaGreatDoorZRCl1
import Derived.Maps.RangeRun
set_option linter.unusedVariables false
set_option linter.unusedSimpArgs false
set_option maxHeartbeats 4000000
set_option maxRecDepth 20000
namespace Go.Sx
theorem An {X R:Type} {b:X->(X->Option R)->Option R} {r:R} (I:X->Prop) (e:X->Nat)
  (h:∀x f,I x->(∀c,I c->e c<e x->f c=some r)->b x f=some r):∀(a:Nat) (x:X),I x->e x<a->bJ b a x=some r:=by
 intro a
 induction a with
 |zero=>intro x _ j;omega
 |succ k l=>
  intro x g j;exact h x _ g λc d i=>l c d (by omega)
def OK {R:Type} (Q:R->Prop) (o:Option R):Prop:=∃r,o=some r∧Q r
theorem uN {X R:Type} {step:X->(X->Option R)->Option R} {Q:R->Prop} (I:X->Prop) (d:X->Nat)
  (h:∀x e,I x->(∀b,I b->d b<d x->OK Q (e b))->OK Q (step x e)):∀(a:Nat) (x:X),I x->d x<a->OK Q (bJ step a x):=by
 intro a
 induction a with
 |zero=>intro x _ i;omega
 |succ k j=>
  intro x f i;exact h x _ f λb c g=>j b c (by omega)
theorem cD {b:Type} {p:Prop} [Decidable p] (a:p) (x:Option b):ck p x=x:=if_pos a
theorem wr {x:Int} (a : -9223372036854775808<=x) (b:x<=9223372036854775807):wI .i64 x=x:=if_pos ⟨a,b⟩
theorem bE {a b:Type} {x:Option a} {y:a} {f:a->Option b} (h:x=some y):x.bind f=f y:=by rw[h];rfl
theorem aei {a:Type} (l r:List a) (x y:a) (i:Nat) (h:l.length=i):(l++x::r).set i y=l++y::r:=by
 rw[List.set_append_right _ _ (by omega)];simp[<-h]
theorem Uj {a:Type} [Inhabited a] (l r:List a) (x:a) (i:Nat) (h:l.length=i):at' (l++x::r) (i:Int)=x:=by
 rw[gC,List.getD_eq_getElem?_getD,List.getElem?_append_right (by omega)];simp[<-h]
theorem eY {X R:Type} {step:X->(X->Option R)->Option R} {K:Option R} (N:Nat) (F:Nat->X) (c:∀(k:Nat) g,k<N->step (F k) g=g (F (k+1))) (e:∀g,step (F N) g=K):∀b,N<b->bJ step b (F 0)=K:=by
 have i:∀(d a b:Nat),a+d=N->d<b->bJ step b (F a)=K:=by
  intro d
  induction d with
  |zero=>
   intro a b j h;obtain rfl:a=N:=by omega
   obtain⟨f,rfl⟩:∃f,b=f+1:=⟨b - 1,by omega⟩
   exact e _
  |succ d l=>
   intro a b j h;obtain⟨f,rfl⟩:∃f,b=f+1:=⟨b - 1,by omega⟩
   show step (F a) (bJ step f)=K;rw[c a _ (by omega)];exact l (a+1) f (by omega) (by omega)
 exact λb h=>i N 0 b (by omega) h
theorem yD {X R:Type} {step:X->(X->Option R)->Option R} {K bad:Option R} (N:Nat) (p:Nat->Prop) (F:Nat->X) (r:∀(k:Nat) c,k<N->p k->step (F k) c=c (F (k+1))) (i:∀(k:Nat) c,k<N->¬p k->step (F k) c=bad) (j:∀c,step (F N) c=K):
  ∀b,N<b->((∀k,k<N->p k)->bJ step b (F 0)=K)∧(¬(∀k,k<N->p k)->bJ step b (F 0)=bad):=by
 have s:∀(d a b:Nat),a+d=N->d<b->((∀k,a<=k->k<N->p k)->bJ step b (F a)=K)∧(¬(∀k,a<=k->k<N->p k)->bJ step b (F a)=bad):=by
  intro d
  induction d with
  |zero=>
   intro a b t q;obtain rfl:a=N:=by omega
   obtain⟨f,rfl⟩:∃f,b=f+1:=⟨b - 1,by omega⟩
   exact⟨λ_=>j _,λh=>absurd (λk m g=>by omega) h⟩
  | succ d ih =>
   intro a b t q;obtain⟨f,rfl⟩:∃f,b=f+1:=⟨b - 1,by omega⟩
   obtain⟨u,v⟩:=ih (a+1) f (by omega) (by omega);have e:bJ step (f+1) (F a)=step (F a) (bJ step f):=rfl;rw[e];by_cases n:p a
   ·rw[r a _ (by omega) n];refine⟨λh=>u λk m g=>h k (by omega) g,λh=>v λo=>h λk m g=> ?_⟩
    by_cases l:k=a
    ·subst l;exact n
    ·exact o k (by omega) g
   ·exact⟨λh=>absurd (h a (Nat.le_refl _) (by omega)) n,λ_=>i a _ (by omega) n⟩
 intro b q;obtain⟨m,g⟩:=s N 0 b (by omega) q;exact⟨λh=>m λk _ l=>h k l,λh=>g λo=>h λk l=>o k (by omega) l⟩
theorem BU {X R:Type} {step:X->(X->Option R)->Option R} {K:X->Option R} (N:Nat) (I:Nat->X->Prop) (e:∀(k:Nat) x i,k<N->I k x->∃c,I (k+1) c∧step x i=i c) (h:∀x i,I N x->step x i=K x):∀b x,I 0 x->N<b->∃c,I N c∧bJ step b x=K c:=by
 have m:∀(d a b:Nat) (x:X),a+d=N->d<b->I a x->∃c,I N c∧bJ step b x=K c:=by
  intro d
  induction d with
  |zero=>
   intro a b x p l g;obtain rfl:a=N:=by omega
   obtain⟨f,rfl⟩:∃f,b=f+1:=⟨b - 1,by omega⟩
   exact⟨x,g,h _ _ g⟩
  |succ d r=>
   intro a b x p l g;obtain⟨f,rfl⟩:∃f,b=f+1:=⟨b - 1,by omega⟩
   obtain⟨c,j,q⟩:=e a x (bJ step f) (by omega) g;obtain⟨s,n,o⟩:=r (a+1) f c (by omega) (by omega) j;exact⟨s,n,by rw[<-o];exact q⟩
 exact λb x g l=>m N 0 b x (by omega) l g
def ZC (q:Nat->Bool):Nat->Bool
 |0=>false
 |k+1=>ZC q k||q k
theorem VZ {q:Nat->Bool}:∀{k:Nat},ZC q k=true↔∃i,i<k∧q i=true
 |0=>by simp[ZC]
 | k + 1 => by
  simp only[ZC,Bool.or_eq_true,VZ (k:=k)];constructor
  ·rintro(⟨i,b,a⟩|h)
   ·exact⟨i,by omega,a⟩
   ·exact⟨k,by omega,h⟩
  ·rintro⟨i,b,a⟩;by_cases e:i=k
   ·subst e;exact .inr a
   ·exact .inl ⟨i,by omega,a⟩
def vR (p:Nat->Bool):Nat->Nat
 |0=>0
 |k+1=>if p k then vR p k ||| 2^k else vR p k
theorem OV (p:Nat->Bool):∀k,vR p k<2^k
 |0=>by simp[vR]
 |k+1=>by
  have h:=OV p k;simp only[vR];split
  ·exact Nat.or_lt_two_pow (by omega) (Nat.pow_lt_pow_right (by omega) (by omega))
  ·omega
theorem Hs (p:Nat->Bool) (j:Nat):∀k,(vR p k).testBit j=(decide (j<k)&&p j)
 |0=>by simp[vR]
 | k + 1 => by
  have h:=Hs p j k;simp only[vR];by_cases e:j=k
  ·subst e;cases c:p j<;>simp[h,c]
  ·have a:decide (j<k+1)=decide (j<k):=decide_eq_decide.2 (by omega);have b:¬k=j:=λh=>e h.symm;split
   ·rw[Nat.testBit_or,h,Nat.testBit_two_pow,a];simp[b]
   ·rw[h,a]
end Go.Sx
section
set_option linter.unusedSectionVars false
namespace Go.Sx
open Go.RowKit
section defs
variable {κ ν:Type} [DecidableEq κ]
def DI (a:κ->Value) (b:ν->Value):Nat->List (κ×ν)->List MapEntry
 |_,[]=>[]
 |i,x::xs=>⟨a x.1,b x.2,i⟩::DI a b (i+1) xs
def mJ (k:κ):List (κ×ν)->Option ν
 | []=>none
 |x::xs=>if k=x.1 then some x.2 else mJ k xs
def Cv (k:κ) (v:ν):List (κ×ν)->List (κ×ν)
 | []=>[(k,v)]
 |x::xs=>if k=x.1 then(k,v)::xs else x::Cv k v xs
def UA (a:ν->Value) (k:κ):Nat->List (κ×ν)->Option (Nat×Value)
 |_,[]=>none
 |i,x::xs=>if k=x.1 then some (i,a x.2)else UA a k (i+1) xs
theorem MS (a:ν->Value) (k:κ):∀(i:Nat) (l:List (κ×ν)),(UA a k i l).map (·.2)=(mJ k l).map a
 |_,[]=>rfl
 |i,x::xs=>by
  simp only[UA,mJ];split
  ·rfl
  ·exact MS a k (i+1) xs
theorem Kk (a:κ->Value) (b:ν->Value):∀(i:Nat) (l:List (κ×ν)) (x:κ×ν),DI a b i (l++[x])=DI a b i l++[⟨a x.1,b x.2,i+l.length⟩]
 |i,[],x=>rfl
 |i,y::ys,x=>by
  simp only[List.cons_append,DI,Kk a b (i+1) ys x,List.length_cons];rw[show i+1+ys.length=i+(ys.length+1) by omega]
theorem Hu (k:κ) (v:ν):∀l:List (κ×ν),mJ k l=none->Cv k v l=l++[(k,v)]
 | [],_=>rfl
 | x :: xs, h => by
  simp only[mJ]at h;split at h
  ·cases h
  ·rename_i a;simp only[Cv,if_neg a,Hu k v xs h,List.cons_append]
theorem SS (a:κ->Value) (b:ν->Value) (k:κ) (v:ν):∀(i0 i:Nat) (l:List (κ×ν)) (j:Nat) (u:Value),UA b k i l=some (j,u)->
  i<=j∧((DI a b i l)[j - i]?).map (·.key)=some (a k)∧DI a b i (Cv k v l)=(DI a b i l).modify (j - i) (λe=>{e with key:=a k,val:=b v})∧(Cv k v l).length=l.length
 |_,i,[],j,u,h=>by simp[UA]at h
 | i0, i, x :: xs, j, u, h => by
  simp only[UA]at h;split at h
  ·rename_i n;simp only[Option.some.injEq,Prod.mk.injEq]at h;obtain⟨rfl,_⟩:=h;simp[DI,Cv,n]
  ·rename_i c;obtain⟨o,f,g,m⟩:=SS a b k v i0 (i+1) xs j u h;have d:j - i=(j - (i+1))+1:=by omega
   refine⟨by omega,?_,?_,?_⟩
   ·rw[d];simpa [DI]using f
   ·simp only[Cv,if_neg c,DI];rw[d,List.modify_succ_cons,g]
   ·simp[Cv,c,m]
end defs
structure Jg (P:Program) (kt:TypeId) {κ:Type} [DecidableEq κ] (ek:κ->Value):Prop where
 chk:∀b k w,(Instr.checkKey b 10000 kt (ek k)).run P w = .ok () w
 find:∀{ν:Type} (ev:ν->Value) (k:κ) (l:List (κ×ν)) w,(Instr.findKey kt (ek k) (DI ek ev 0 l)).run P w = .ok (UA ev k 0 l) w
 same:∀k,Instr.sameBits 10000 (ek k) (ek k)=true
def Mp {b c:Type} (d:b->Value) (e:c->Value) (r:Nat) (l:List (b×c)):aZ where
 p w F:=F r∧w.heap[r]? = some (.map (DI d e 0 l).toArray l.length)
 mono:=fun⟨f,a⟩ h=>by
  obtain⟨g,i⟩:=h r f (Array.getElem?_eq_some_iff.1 a).1;exact⟨g,by rw[i];exact a⟩
section
variable {P:Program} {rd:Option Nat} {c:tP} {n:Sz} {σ:Fr} {M L:List aZ} {Q:Exit->Act->World->Prop} {ops:Array Oper} {rest:List Oper}
variable {d:Option Tmp} {ty:TypeId} {pos:String} {aft:Array Edge} {g:Option (Nat×Bool)}
theorem St.push {w:World} (t:St c M L w) (o:Obj) {m:aZ} (z:m.p (w.alloc o) (λk=>k=w.heap.size)):St c (m::M) L (w.alloc o):=by
 have e:Mk w (w.alloc o):=(Below.refl _ _).alloc (Nat.le_refl _) _;obtain⟨v,F,b,x⟩:=t;have u:∀k,k<w.heap.size->(w.alloc o).heap[k]? = w.heap[k]? := e.block;refine⟨v.trans e,λi k=>match i with|0=>k=w.heap.size|i+1=>F i k,⟨?_,?_,?_⟩,λf y=> ?_⟩
 ·intro i A a;cases i with
  |zero=>simp at a;subst a;exact z
  |succ i=>exact aZ.same (b.res i A (by simpa using a)) (λ_ h=>h) (λk _ s=>u k s)
 ·intro i k q;cases i with
  |zero=>subst q;exact⟨.inl v.size,by simp⟩
  |succ i=>exact⟨(b.rng i k q).1,Nat.lt_of_lt_of_le (b.rng i k q).2 e.size⟩
 ·intro i j k l r;cases i with
  |zero=>
   cases j with
   |zero=>rfl
   |succ j=>have:=(b.rng j k r).2;simp only at l;omega
  |succ i=>
   cases j with
   |zero=>have:=(b.rng i k l).2;simp only at r;omega
   |succ j=>exact congrArg (· + 1) (b.dis i j k l r)
 ·exact f.mono (x f y) λk q s=>⟨⟨q.1,λi l=>by
   cases i with
   |zero=>simp only at l;omega
   |succ i=>exact q.2 i l⟩,u k s⟩
variable {κ ν:Type} [DecidableEq κ] {ek:κ->Value} {ev:ν->Value}
theorem aM.makeMap (ek:κ->Value) (ev:ν->Value) {T:TypeId}:aM P c n σ M L ⟨d,.makeMap T none,ty,pos,aft,g⟩ (λr:Nat=> .map (some r)) (λr=>Mp ek ev r []::M) (λ_=>L):=λa w s t=>by
 have b:(execOp a.eval ⟨d,.makeMap T none,ty,pos,aft,g⟩).run P w = .ok (.value (.map (some w.heap.size))) (w.alloc (.map #[] 0)):=by
  simp[execOp,Instr.makeMap]
 simp only[Oper.wp,b,Oper.upon];exact⟨w.heap.size,rfl,t.push _ ⟨rfl,heap_alloc_new w _⟩⟩
theorem RQ [cL P] {T j m:TypeId} {C D E G:Nat} {z f:Value} {o:TypeDesc} {w:World} {r:Nat} {l:List (κ×ν)} {F:Nat->Prop} (i:Jg P j ek) (q:(Mp ek ev r l).p w F)
  (s:cL.tab P T=some ⟨.map j m,C,D,z⟩) (t:cL.tab P m=some ⟨o,E,G,f⟩) (k:κ) (b:Bool):
  (Instr.lookup T (.map (some r)) (ek k) b).run P w = .ok (if b then .tuple #[((mJ k l).map ev).getD f,.bool (mJ k l).isSome]else((mJ k l).map ev).getD f) w:=by
 have y:(getObj r).run P w = .ok (.map (DI ek ev 0 l).toArray l.length) w:=by
  simp[getObj,Sem.run,q.2]
 have u:=i.find ev k l w;have a:=MS ev k 0 l;simp only[Instr.lookup];simp[(cL.ok s).run_und w,y,i.chk,u];cases e:UA ev k 0 l with
 |none=>
  rw[e]at a;have:mJ k l=none:=by cases h:mJ k l<;>simp[h]at a ⊢
  simp[this,(cL.ok t).run_zero w]
 | some x =>
  rw[e]at a;obtain⟨v,A,B⟩:∃v,mJ k l=some v∧ev v=x.2:=by
   cases h:mJ k l with
   |none=>simp[h]at a
   |some v=>simp[h]at a;exact⟨v,rfl,a.symm⟩
  simp[A,B]
theorem Ot [cL P] (j:Nat) {T e f:TypeId} {D E G H:Nat} {z h:Value} {i:TypeDesc} {x y:Operand} {r:Nat} {l:List (κ×ν)} (k:κ) {b:Bool} (v:Jg P e ek) (B:Go.Sx.ev σ x=some (.map (some r))) (C:Go.Sx.ev σ y=some (ek k)) (q:M[j]? = some (Mp ek ev r l))
  (o:cL.tab P T=some ⟨.map e f,D,E,z⟩) (p:cL.tab P f=some ⟨i,G,H,h⟩) {u:Value} (A:((mJ k l).map ev).getD h=u):
  Y P c n σ M L ⟨d,.lookup T x y b,ty,pos,aft,g⟩ (if b then .tuple #[u,.bool (mJ k l).isSome]else u):=λa w s t=>by
 obtain⟨F,m⟩:=t.res q;subst A;simp[execOp,s.eval B,s.eval C,RQ v m o p]
theorem DO {w:World} {r:Nat} {a:Array MapEntry} {k:Nat} (h:w.heap[r]? = some (.map a k)) (o:Obj):(setObj r o).run P w = .ok () {w with heap:=w.heap.setIfInBounds r o}:=by
 simp[setObj,Sem.run,h]
theorem St.setMap {w:World} (t:St c M L w) {j r:Nat} {l b:List (κ×ν)} (f:M[j]? = some (Mp ek ev r l)) (o:Obj) (m:o = .map (DI ek ev 0 b).toArray b.length):
  St c (M.set j (Mp ek ev r b)) L {w with heap:=w.heap.setIfInBounds r o}:=
 t.upd f Z Z Z (by simp) λF a _=>⟨λk _ i=>by
   rw[Array.getElem?_setIfInBounds_ne (λe=>i (by subst e;exact a.1))],F,⟨a.1,by
    rw[Array.getElem?_setIfInBounds_self_of_lt (Array.getElem?_eq_some_iff.1 a.2).1,m]⟩,λ_ h=> .inl h⟩
theorem NO [cL P] (j:Nat) {T R vt:TypeId} {s1 s2:Nat} {z:Value} {x y v:Operand} {r:Nat} {l:List (κ×ν)} (k:κ) (f:ν) (C:Jg P R ek) (Y:Go.Sx.ev σ x=some (.map (some r))) (hy:Go.Sx.ev σ y=some (ek k)) (X:Go.Sx.ev σ v=some (ev f)) (K:M[j]? = some (Mp ek ev r l))
  (I:cL.tab P T=some ⟨.map R vt,s1,s2,z⟩) (h:J c n σ (M.set j (Mp ek ev r (Cv k f l))) L (wpList P ops Q rest)):
  J c n σ M L (wpList P ops Q (⟨none,.mapUpdate T x y v,ty,pos,aft,none⟩::rest)):=λa w s t=>by
 refine mG Z ?_;obtain⟨F,E⟩:=t.res K;have N:(getObj r).run P w = .ok (.map (DI ek ev 0 l).toArray l.length) w:=by
  simp[getObj,Sem.run,E.2]
 have b:=C.find ev k l w;have A:=MS ev k 0 l;have B:∃o:Obj,(execOp a.eval ⟨none,.mapUpdate T x y v,ty,pos,aft,none⟩).run P w = .ok .skip {w with heap:=w.heap.setIfInBounds r o}∧o = .map (DI ek ev 0 (Cv k f l)).toArray (Cv k f l).length:=by
  simp only[execOp,s.eval Y,s.eval hy,s.eval X,Instr.mapUpdate];cases m:UA ev k 0 l with
  |none=>
   rw[m]at A b;have U:mJ k l=none:=by cases h:mJ k l<;>simp[h]at A ⊢
   refine⟨.map (DI ek ev 0 l++[(⟨ek k,ev f,l.length⟩:MapEntry)]).toArray (l.length+1),by simp[(cL.ok I).run_und w,N,C.chk,b,DO E.2],?_⟩
   rw[Hu k f l U,Kk];simp
  | some q =>
   obtain⟨i,u⟩:=q;rw[m]at b;obtain⟨_,D,H,S⟩:=SS ek ev k f 0 0 l i u m;rw[Nat.sub_zero]at D H;have O:(((DI ek ev 0 l).toArray[i]?).map (·.key)).getD (ek k)=ek k:=by
    rw[List.getElem?_toArray,D];rfl
   refine⟨.map ((DI ek ev 0 l).toArray.modify i λe=>{e with key:=ek k,val:=ev f}) l.length,?_,?_⟩
   ·have G:(Instr.keyThatStays (ek k) (ek k)).run P w = .ok (ek k) w:=by simp[Instr.keyThatStays,C.same k]
    have p:(Option.map (λx=>x.key) (DI ek ev 0 l)[i]?).getD (ek k)=ek k:=by rw[D];rfl
    simp[(cL.ok I).run_und w,N,C.chk,b,p,G,DO E.2]
   ·rw[H,S];simp
 obtain⟨o,W,V⟩:=B;simp only[Oper.wp,W,Oper.upon];exact h _ _ s (t.setMap K o V)
end
end Go.Sx
end
section
set_option linter.unusedSectionVars false
namespace Go.Sx
open Go.RowKit Go.ChangeMaps
def It (b m a:Nat) (c:List Nat):aZ where
 p w F:=F b∧w.heap[b]? = some (.mapIter (some m) a c.toArray a)
 mono:=fun⟨e,d⟩ h=>by
  obtain⟨f,g⟩:=h b e (Array.getElem?_eq_some_iff.1 d).1;exact⟨f,by rw[g];exact d⟩
section
variable {κ ν:Type} [DecidableEq κ] {ek:κ->Value} {ev:ν->Value} {R:Type}
theorem Ni (ek:κ->Value) (ev:ν->Value):∀(k:Nat) (l:List (κ×ν)) (e:MapEntry),e∈DI ek ev k l->∃i a,l[i]? = some a∧e=⟨ek a.1,ev a.2,k+i⟩
 |_,[],e,h=>by simp[DI]at h
 | k, x :: xs, e, h => by
  rcases List.mem_cons.1 h with rfl|h
  ·exact⟨0,x,rfl,rfl⟩
  ·obtain⟨i,a,b,c⟩:=Ni ek ev (k+1) xs e h;exact⟨i+1,a,b,by rw[c,show k+1+i=k+(i+1) by omega]⟩
theorem Ng (ek:κ->Value) (ev:ν->Value):∀(k:Nat) (l:List (κ×ν)) (i:Nat) (a:κ×ν),l[i]? = some a->(⟨ek a.1,ev a.2,k+i⟩:MapEntry)∈DI ek ev k l
 |_,[],i,a,h=>by simp at h
 |k,x::xs,0,a,h=>by simp at h;subst h;exact List.mem_cons_self
 |k,x::xs,i+1,a,h=>by
  have:=Ng ek ev (k+1) xs i a (by simpa using h);rw[show k+1+i=k+(i+1) by omega]at this;exact List.mem_cons_of_mem _ this
theorem Pa (ek:κ->Value) (ev:ν->Value):∀(k:Nat) (l:List (κ×ν)),(DI ek ev k l).map (·.born)=List.range' k l.length
 |_,[]=>rfl
 |k,x::xs=>by simp[DI,Pa ek ev (k+1) xs,List.range'_succ]
def KS (a:κ×ν->Option R->Option R) (K:Option R) (l:List (κ×ν)):Option R:=l.foldr a K
def rem (l:List (κ×ν)) (a:List Nat):List (κ×ν):=((List.range l.length).filter (λi=> !a.contains i)).filterMap (λi=>l[i]?)
theorem LG:∀l:List (κ×ν),(List.range l.length).filterMap (λi=>l[i]?)=l
 | []=>rfl
 |x::xs=>by
  rw[List.length_cons,List.range_succ_eq_map,List.filterMap_cons];simp only[List.getElem?_cons_zero,List.filterMap_map];congr 1;have:=LG xs;simpa [Function.comp_def]using this
theorem abf (l:List (κ×ν)):rem l []=l:=by
 unfold rem;rw[List.filter_eq_self.2 (by simp),LG]
theorem Yj {l:List (κ×ν)} {a:List Nat} {i:Nat} {m:κ×ν} (k:l[i]? = some m) (t:i∉a):∃n o,rem l a=n++m::o∧rem l (a++[i])=n++o:=by
 have g:=bA k;have d:i∈(List.range l.length).filter (λi=> !a.contains i):=by simp[g,t]
 obtain⟨A,B,b⟩:=List.append_of_mem d;have c:((List.range l.length).filter (λi=> !a.contains i)).Nodup:=List.Pairwise.filter _ List.nodup_range;rw[b]at c;have r:i∉A:=λh=>by
  have:=(List.nodup_append.1 c).2.2 i h i List.mem_cons_self;exact this Z
 have s:i∉B:=λh=>by
  have:=(List.nodup_cons.1 (List.nodup_append.1 c).2.1).1;exact this h
 refine⟨A.filterMap (λi=>l[i]?),B.filterMap (λi=>l[i]?),?_,?_⟩
 ·unfold rem;rw[b,List.filterMap_append,List.filterMap_cons,k]
 ·unfold rem;have e:(List.range l.length).filter (λj=> !(a++[i]).contains j)=((List.range l.length).filter (λj=> !a.contains j)).filter (λj=>decide (j≠i)):=by
   rw[List.filter_filter];apply List.filter_congr;intro j _;rw[Bool.eq_iff_iff];simp[and_comm]
  rw[e,b,List.filter_append,List.filter_cons];have p:A.filter (λj=>decide (j≠i))=A:=List.filter_eq_self.2 (λj f=>by simp;rintro rfl;exact r f);have q:B.filter (λj=>decide (j≠i))=B:=List.filter_eq_self.2 (λj f=>by simp;rintro rfl;exact s f);rw[p,q,List.filterMap_append.symm];simp
theorem LF {c:κ×ν->Option R->Option R} (f:∀a b x,c a (c b x)=c b (c a x)) (K:Option R) (d:κ×ν) (e:List (κ×ν)):∀g:List (κ×ν),KS c K (g++d::e)=c d (KS c K (g++e))
 | []=>rfl
 |x::xs=>by
  have:=LF f K d e xs;unfold KS at this ⊢;rw[List.cons_append,List.cons_append,List.foldr_cons,List.foldr_cons,this,f]
end
section
variable {P:Program} {rd:Option Nat} {c:tP} {n:Sz} {σ σ':Fr} {M L M' L':List aZ} {Q:Exit->Act->World->Prop} {ops:Array Oper} {rest:List Oper}
variable {d:Option Tmp} {ty:TypeId} {pos:String} {aft:Array Edge} {g:Option (Nat×Bool)}
variable {κ ν:Type} [DecidableEq κ] {ek:κ->Value} {ev:ν->Value} {R:Type}
theorem aM.range [cL P] (j:Nat) {T f h:TypeId} {q r:Nat} {z:Value} {x:Operand} {m:Nat} {l:List (κ×ν)} (p:Go.Sx.ev σ x=some (.map (some m))) (o:M[j]? = some (Mp ek ev m l)) (k:cL.tab P T=some ⟨.map f h,q,r,z⟩):
  aM P c n σ M L ⟨d,.range T x,ty,pos,aft,g⟩ (λb:Nat=> .pointer (some ⟨b,0,none⟩)) (λb=>It b m l.length []::M) (λ_=>L):=λa w s t=>by
 obtain⟨F,i⟩:=t.res o;have e:(execOp a.eval ⟨d,.range T x,ty,pos,aft,g⟩).run P w = .ok (.value (.pointer (some ⟨w.heap.size,0,none⟩))) (w.alloc (.mapIter (some m) l.length #[] l.length)):=by
  simp[execOp,s.eval p,run_range_map w T f h m _ _ (cL.ok k).und i.2]
 simp only[Oper.wp,e,Oper.upon];exact⟨w.heap.size,rfl,t.push _ ⟨rfl,heap_alloc_new w _⟩⟩
def Gm (ek:κ->Value) (ev:ν->Value) (l:List (κ×ν)):Option Nat->Value
 |none=> .tuple #[.bool false]
 |some i=>match l[i]? with
  |some a=> .tuple #[.bool true,ek a.1,ev a.2]
  |none=>undef
def adW (b:Nat) (a:List Nat):Option Nat->Prop
 |none=>∀i,i<b->i∈a
 |some i=>i<b∧i∉a
def Tj (M:List aZ) (f b m e:Nat) (a:List Nat):Option Nat->List aZ
 |none=>M
 |some i=>M.set f (It b m e (a++[i]))
theorem St.pureL {w:World} {p:Prop} (hp:p) (t:St c M L w):St c M (ack p::L) w:=by
 obtain⟨ho,F,hF,hL⟩:=t;refine⟨ho,F,hF,λf hf=> ?_⟩
 rcases List.mem_cons.1 hf with rfl|hf
 ·exact hp
 ·exact hL f hf
theorem aM.next (jm ji:Nat) {x:Operand} {b m:Nat} {l:List (κ×ν)} {seen:List Nat} (hx:Go.Sx.ev σ x=some (.pointer (some ⟨b,0,none⟩))) (hf:M[jm]? = some (Mp ek ev m l)) (hi:M[ji]? = some (It b m l.length seen)):
  aM P c n σ M L ⟨d,.next x false,ty,pos,aft,g⟩ (Gm ek ev l) (Tj M ji b m l.length seen) (λo=>ack (adW l.length seen o)::L):=λa w s t=>by
 obtain⟨F,hF⟩:=t.res hf;obtain⟨G,hG⟩:=t.res hi;have hold:∀e∈(DI ek ev 0 l).toArray.toList,e.born<l.length:=λe he=>by
  obtain⟨i,kv,h1,h2⟩:=Ni ek ev 0 l e (by simpa using he);rw[h2];have:=bA h1;simp;omega
 rcases run_next_at (P:=P) w ty b m l.length l.length seen.toArray (DI ek ev 0 l).toArray l.length hG.2 hF.2 hold (Nat.le_refl _)with⟨h0,hr⟩|⟨e,he,w1,hw1,hr⟩
 ·have hrun:(execOp a.eval ⟨d,.next x false,ty,pos,aft,g⟩).run P w = .ok (.value (.tuple #[.bool false])) w:=by
   simp[execOp,s.eval hx,hr]
  simp only[Oper.wp,hrun,Oper.upon];refine⟨none,rfl,t.pureL λi hi'=> ?_⟩
  obtain⟨kv,hkv⟩:∃kv,l[i]? = some kv:=⟨_,List.getElem?_eq_getElem hi'⟩
  have:=all_seen _ _ h0 _ (by simpa using Ng ek ev 0 l i kv hkv);simpa using this
 ·have hml:=_root_.Go.mem_left he;obtain⟨i,kv,h1,h2⟩:=Ni ek ev 0 l e (by simpa using hml.1);subst h2;rw[Nat.zero_add]at hr hml;have hrun:(execOp a.eval ⟨d,.next x false,ty,pos,aft,g⟩).run P w = .ok (.value (.tuple #[.bool true,ek kv.1,ev kv.2])) (setBlock w1 b (.mapIter (some m) l.length (seen.toArray.push i) l.length)):=by
   simp[execOp,s.eval hx,hr]
  simp only[Oper.wp,hrun,Oper.upon];have t1:St c M L w1:=by
   rcases hw1 with rfl|rfl
   ·exact t
   ·exact t.ext ((Below.refl _ _).drew)
  refine⟨some i,by simp[Gm,h1],St.pureL ⟨bA h1,by simpa using hml.2⟩ ?_⟩
  refine t1.upd hi Z Z Z (by simp[setBlock]) λF hF _=>⟨λk _ hk=> ?_,F,⟨hF.1,?_⟩,λ_ h=> .inl h⟩
  ·simp only[setBlock];rw[Array.getElem?_setIfInBounds_ne (λe=>hk (by subst e;exact hF.1))]
  ·simp only[setBlock];rw[Array.getElem?_setIfInBounds_self_of_lt (Array.getElem?_eq_some_iff.1 hF.2).1];simp
theorem aM.entry (A z:Nat) {x:Operand} {b m i:Nat} {l:List (κ×ν)} {f:List Nat} {e:κ×ν} (j:l[i]? = some e) (y:Go.Sx.ev σ x=some (.pointer (some ⟨b,0,none⟩))) (q:M[A]? = some (Mp ek ev m l)) (r:M[z]? = some (It b m l.length (f++[i]))):
  aM P c n σ M L ⟨d,.entry x,ty,pos,aft,g⟩ (λ_:Unit=> .tuple #[ek e.1,ev e.2]) (λ_=>M) (λ_=>L):=λa w s t=>by
 obtain⟨F,o⟩:=t.res q;obtain⟨G,p⟩:=t.res r;have k:=Ng ek ev 0 l i e j;rw[Nat.zero_add]at k;have u:((DI ek ev 0 l).toArray.toList.map (·.born)).Nodup:=by
  simp only[Pa];exact List.nodup_range'
 have v:=run_entry_at (P:=P) w b m l.length f.toArray (DI ek ev 0 l).toArray l.length ⟨ek e.1,ev e.2,i⟩ (by rw[p.2];simp) o.2 (by simpa using k) u;have h:(execOp a.eval ⟨d,.entry x,ty,pos,aft,g⟩).run P w = .ok (.value (.tuple #[ek e.1,ev e.2])) w:=by
  simp[execOp,s.eval y,v]
 simp only[Oper.wp,h,Oper.upon];exact⟨(),by first|rfl|trivial,t⟩
theorem Zn {G:Act->World->Prop} (σ':Fr) (M' L':List aZ) (f:y_ σ σ') (e:a_ M M') (b:aF [] L L') (h:J c n σ' M' L' G):J c n σ M L G:=λa w s t=>h a w (s.weak f) (t.weakE e b)
theorem QB {e:TypeId} {d:TypeDesc} (p:P.underlying e=some d) (m:∀b k w,(Instr.checkKey b 10000 e (ek k)).run P w = .ok () w) (o:∀a b,Instr.sameNow d (ek a) (ek b)=none)
  (r:∀a b w,(Op.equal e (ek a) (ek b)).run P w = .ok (decide (a=b)) w) (f:∀k,Instr.sameBits 10000 (ek k) (ek k)=true):Jg P e ek:=by
 refine⟨m,λ{ν'} ev' k l w=> ?_,f⟩
 have j:∀(l:List (κ×ν')) (i:Nat),(Instr.findAsking e (ek k) (DI ek ev' i l) i).run P w = .ok (UA ev' k i l) w:=by
  intro l
  induction l with
  |nil=>intro i;simp[DI,UA,Instr.findAsking]
  |cons x q t=>
   intro i;simp only[DI,UA,Instr.findAsking];simp[r];by_cases h:k=x.1
   ·simp[h]
   ·simp[h,t]
 unfold Instr.findKey;cases l with
 |nil=>simp[DI,UA,Instr.findNow,run_underlying p w]
 |cons x q=>
  have s:Instr.findNow d (ek k) (DI ek ev' 0 (x::q)) 0=none:=by simp[DI,Instr.findNow,o]
  simp[run_underlying p w,s,j]
def VH {R:Type} (c:tP) (n:Sz) (σ:Fr) (M L:List aZ) (x:Option R) (r:R) (a:Act) (w:World):Prop:=x=some r∧Fc n σ a∧St c M L w
theorem Qz {R:Type} {x:Option R} {r:R} (h:x=some r) (e:y_ σ' σ) (b:a_ M' M) (a:aF [] L' L):J c n σ' M' L' (VH c n σ M L x r):=λ_ _ s t=>⟨h,s.weak e,t.weakE b a⟩
theorem TU (p:κ×ν->Option R->Option R) {K:Option R} {r:R} (O s:Nat) {b m:Nat} {l:List (κ×ν)} (hc:∀a b x,p a (p b x)=p b (p a x)) (h:KS p K l=some r)
  (hf:M[O]? = some (Mp ek ev m l)) (U:M[s]? = some (It b m l.length [])) (af:Nat.beq s O=false) {t0 S T:Tmp} (hx:lk σ t0=some (.pointer (some ⟨b,0,none⟩))) (ab:Nat.blt S n.sz=true) (E:Nat.blt T n.sz=true)
  {id ex:Nat} {y1 y2:TypeId} {q1 q2:String} {f1 f2:Array Edge} {y:Code}
  (C:∀(t:κ×ν) (i:Nat) (k:List Nat) (x:Option R),l[i]? = some t->p t x=some r->
   J c n ((T,.bool true)::(S,.tuple #[.bool true,ek t.1,ev t.2])::σ) (M.set s (It b m l.length (k++[i]))) L (y.wpr rd P (Exit.then (VH c n σ (M.set s (It b m l.length (k++[i]))) L x r) Q)))
  (V:∀k,K=some r->J c n ((T,.bool false)::(S,.tuple #[.bool false])::σ) (M.set s (It b m l.length k)) L (Q (.exit ex))):
  J c n σ M L ((Code.loop (Code.seq (Code.region id [⟨some S,.next (.tmp t0) false,y1,q1,f1,none⟩,⟨some T,.extract (.tmp S) 0,y2,q2,f2,none⟩].toArray false) (Code.seq (Code.cond (.tmp T) .skip (.exit ex)) y))).wpr rd P Q):=by
 have z:=bA U;have ae:O≠s:=λe=>by subst e;simp at af
 have H:M.set s (It b m l.length [])=M:=by
  apply List.ext_getElem?;intro q;by_cases eq:q=s
  ·subst eq;rw[List.getElem?_set_self z,U]
  ·rw[List.getElem?_set_ne (Ne.symm eq)]
 refine Vu (X:=List Nat) (λk=>k.Nodup∧(∀i∈k,i<l.length)∧KS p K (rem l k)=some r) (λ_=>σ) (λk=>M.set s (It b m l.length k)) (λ_=>L) (λk=>l.length - k.length) [] ⟨List.nodup_nil,by simp,by rw[abf];exact h⟩ (y_.refl _) (by rw[H];exact a_.refl _) (λ_ h=>h) ?_;rintro k ⟨G,F,v⟩;have ac:(M.set s (It b m l.length k))[O]? = some (Mp ek ev m l):=by rw[List.getElem?_set_ne (Ne.symm ae)];exact hf
 have ad:(M.set s (It b m l.length k))[s]? = some (It b m l.length k):=List.getElem?_set_self z;refine aJ (aO (aH (aM.next O s (x:= .tmp t0) hx ac ad) ab λo=> ?_));refine ach List.mem_cons_self λho=> ?_;refine aci (M':=Tj (M.set s (It b m l.length k)) s b m l.length k o) (L':=L) ?_ (y_.refl _) (a_.refl _) (λf hf=>List.mem_cons_of_mem _ hf);cases o with
 | none =>
  refine aB (lS (vs:=[.bool false]) (by simp[Gm,lk,Go.Sx.ev]) Z) E (eJ (Bg (aJ (Iz (by simp[lk,Go.Sx.ev]) (rA (eM (eM ?_)))))));refine V k ?_;have:rem l k=[]:=by
   unfold rem;rw[List.filter_eq_nil_iff.2 (λi U=>by simpa using ho i (by simpa using U))];rfl
  rw[this]at v;exact v
 | some i =>
  obtain⟨W,Y⟩:=ho;obtain⟨t,A⟩:∃t,l[i]? = some t:=⟨_,List.getElem?_eq_getElem W⟩
  have N:Gm ek ev l (some i) = .tuple #[.bool true,ek t.1,ev t.2]:=by simp[Gm,A]
  obtain⟨l1,l2,e1,e2⟩:=Yj A Y;have B:p t (KS p K (rem l (k++[i])))=some r:=by
   rw[e2,<-LF hc K t l2 l1,<-e1];exact v
  have aa:Tj (M.set s (It b m l.length k)) s b m l.length k (some i)=M.set s (It b m l.length (k++[i])):=by simp[Tj]
  rw[N,aa];refine aB (lS (vs:=[.bool true,ek t.1,ev t.2]) (by simp[lk,Go.Sx.ev]) Z) E (eJ (Bg (aJ (Sj (by simp[lk,Go.Sx.ev]) (dL (Bg ?_))))));refine Vv (C t i k _ A B) λa w hw=>GL (λe a' w' q=> ?_) hw;cases e with
  | normal =>
   obtain⟨ai,ag,ah⟩:=q;refine⟨k++[i],⟨?_,?_,ai⟩,?_,ag,ah⟩
   ·rw[List.nodup_append];exact⟨G,by simp,λa ha b D=>by simp at D;subst D;rintro rfl;exact Y ha⟩
   ·intro j u;rcases List.mem_append.1 u with u|u
    ·exact F j u
    ·simp at u;subst u;exact W
   ·have:k.length<l.length:=by
     have I:(k++[i]).length<=(List.range l.length).length:=by
      apply List.Nodup.length_le_of_subset
      ·rw[List.nodup_append];exact⟨G,by simp,λa ha b D=>by simp at D;subst D;rintro rfl;exact Y ha⟩
      ·intro j u;rcases List.mem_append.1 u with u|u
       ·simpa using F j u
       ·simp at u;subst u;simpa using W
     simp at I;omega
    simp;omega
  |exit id=>exact q
  |goto l=>exact q
  |ret=>exact q
  |panic ch=>exact q
  |outgrown=>exact q
end
end Go.Sx
end
namespace Go.Sx
open Go.RowKit
section
variable {P:Program} {rd:Option Nat} {c:tP} {n:Sz} {σ σ':Fr} {M L M' L':List aZ} {Q:Exit->Act->World->Prop} {ops:Array Oper} {rest:List Oper} {K:Act->World->Prop} {G:Act->World->Prop}
variable {d:Option Tmp} {D:Nat} {ty:TypeId} {pos:String} {aft:Array Edge} {g:Option (Nat×Bool)}
variable {α β:Type} {e:cY α} {r:eI α}
def E_ (P:Program) (f:FuncId) (a:Array Value) (Min L:List aZ) {A:Type} (b:A->Value) (h:A->List aZ->List aZ):Prop:=
 ∀c:tP,St c Min L c.w0->Calls P f a c.w0 λe i=>∃x:A,e = .returned (b x)∧St c (h x []) [] i
theorem E_.of {A:Type} {b:A->Value} {q:A->List aZ->List aZ} {f:FuncId} {i:Func} {a:Code} {vs:List Value} {m:Nat} {Min:List aZ}
  (u:P.funcs[f]? = some i) (s:i.body=some a) (x:i.ntmps=m) (w:Nat.ble vs.length m=true)
  (h:∀c:tP,J c ⟨m,[]⟩ (wJ 0 vs) Min L (a.wpr none P (gE P i (Mo c b q (λ_ l=>l))))):E_ P f vs.toArray Min L b q:=λc t=>by
 have o:vs.length<=m:=by simpa using w
 refine sL u s (h c _ _ ⟨rfl,by simp[x,o],?_⟩ t);intro t v y;obtain⟨_,j⟩:=DC vs 0 t v y;rw[Nat.sub_zero]at j;have p:t<vs.length:=by
  rcases Nat.lt_or_ge t vs.length with k|k
  ·exact k
  ·rw[List.getElem?_eq_none k]at j;cases j
 rw[Array.getElem?_append_left (by simpa using p)];simpa using j
theorem VR {w S:World} {l H v:List aZ} {F:Nat->Nat->Prop} {U:Nat->Prop} (y:BN c.O c.w0 w) (o:Own c w (l++H) F) (Y:∀f∈L,f.p w (Da c F))
  (t:St ⟨w,U,λk=>∃i,i<l.length∧F i k⟩ v [] S):St c (v++H) L S:=by
 obtain⟨s,T,u,_⟩:=t;have C:=s.size;have x:∀k,k<w.heap.size->(∀i,i<l.length->¬F i k)->S.heap[k]? = w.heap[k]? := λk a hn=>s.block k a (fun⟨i,B,o⟩=>hn i B o);have b:∀i k,T i k->w.heap.size<=k∨∃j,j<l.length∧F j k:=λi k a=>(u.rng i k a).1;refine⟨⟨s.os.trans y.os,s.tape.trans y.tape,s.output.trans y.output,Nat.le_trans y.size C,λk a W=> ?_⟩,
  λi k=>(i<v.length∧T i k)∨(v.length<=i∧F (i - v.length+l.length) k),⟨?_,?_,?_⟩,λf hf=> ?_⟩
 ·refine(x k (Nat.lt_of_lt_of_le a y.size) (λi _ I=> ?_)).trans (y.block k a W);rcases(o.rng i k I).1 with h|h
  ·omega
  ·exact W h
 ·intro i m E;by_cases B:i<v.length
  ·rw[List.getElem?_append_left B]at E;exact aZ.same (u.res i m E) (λk a=> .inl ⟨B,a⟩) (λ_ _ _=>rfl)
  ·rw[List.getElem?_append_right (by omega)]at E;have R:(l++H)[i - v.length+l.length]? = some m:=by
    rw[List.getElem?_append_right (by omega),Nat.add_sub_cancel];exact E
   exact aZ.same (o.res _ m R) (λk a=> .inr ⟨by omega,a⟩) (λk a N=>x k N (λj X J=>by have:=o.dis _ _ k J a;omega))
 ·rintro i k (⟨_,a⟩|⟨_,a⟩)
  ·refine⟨?_,(u.rng i k a).2⟩
   rcases b i k a with h|⟨j,_,h⟩
   ·exact .inl (Nat.le_trans y.size h)
   ·exact(o.rng j k h).1
  ·exact⟨(o.rng _ k a).1,Nat.lt_of_lt_of_le (o.rng _ k a).2 C⟩
 ·rintro i j k (⟨B,z⟩|⟨B,z⟩) (⟨X,A⟩|⟨X,A⟩)
  ·exact u.dis i j k z A
  ·rcases b i k z with h|⟨q,hq,h⟩
   ·have:=(o.rng _ k A).2;omega
   ·have:=o.dis _ _ k h A;omega
  ·rcases b j k A with h|⟨q,hq,h⟩
   ·have:=(o.rng _ k z).2;omega
   ·have:=o.dis _ _ k h z;omega
  ·have:=o.dis _ _ k z A;omega
 ·refine f.mono (Y f hf) λk a N=>⟨⟨a.1,?_⟩,x k N (λi _=>a.2 i)⟩
  rintro i (⟨_,h⟩|⟨_,h⟩)
  ·rcases b i k h with V|⟨q,_,V⟩
   ·omega
   ·exact a.2 q V
  ·exact a.2 _ h
theorem Ud {w:World} {a u t:List aZ} {F:Nat->Nat->Prop} (o:Own c w (a++u) F) (y:∀f∈L,f.p w (Da c F)) (B:aF u L t):
  St ⟨w,λk=>∀i,i<a.length->¬F i k,λk=>∃i,i<a.length∧F i k⟩ a t w:=by
 refine⟨BN.refl _,λi k=>i<a.length∧F i k,⟨λi m s=> ?_,λi k b=>⟨.inr ⟨i,b⟩,(o.rng i k b.2).2⟩,λi j k v x=>o.dis i j k v.2 x.2⟩,λf z=> ?_⟩
 ·have l:i<a.length:=by
   rcases Nat.lt_or_ge i a.length with q|q
   ·exact q
   ·rw[List.getElem?_eq_none q]at s;cases s
  exact aZ.same (o.res i m (by rw[List.getElem?_append_left l];exact s)) (λk b=>⟨l,b⟩) (λ_ _ _=>rfl)
 ·refine B f z w (Da c F) (λj k=>F (j+a.length) k) _ y (λj m A=> ?_) (λk b=> ?_) (λj k b=> ?_)
  ·exact o.res _ m (by rw[List.getElem?_append_right (by omega),Nat.add_sub_cancel];exact A)
  ·exact⟨.inl λi _=>b.2 i,λi l=>b.2 i l.2⟩
  ·exact⟨.inl λi l h=>by have:=o.dis _ _ k h b;omega,λi l=>by have:=o.dis _ _ k l.2 b;omega⟩
theorem EZ {A:Type} {k:A->Value} {m:A->List aZ->List aZ} {f:FuncId} {p:List Operand} {vs:List Value} {b:Array TypeId} {q Min Mr:List aZ} (z:aW P f)
  (C:E_ P f vs.toArray Min q k m) (H:p.map (ev σ)=vs.map some) (y:a_ M (Min++Mr)) (v:aF Mr L q) (o:∀x l,m x l=m x []++l):
  aM P c n σ M L ⟨d,.call ⟨.value (.func f),p.toArray,b⟩,ty,pos,aft,g⟩ k (λx=>m x Mr) (λ_=>L):=λa w s t=>by
 have j:(execOp a.eval ⟨d,.call ⟨.value (.func f),p.toArray,b⟩,ty,pos,aft,g⟩).run P w = .ok (.enter f vs.toArray) w:=by
  have e:=evs s H;simp[execOp,resolve,Act.eval,Deferred.ofValue,invoke,z _ w,e]
 simp only[Oper.wp,j,Oper.upon];obtain⟨B,F,u,i⟩:=t.weak (L':=L) y (λ_ h=>h);refine(C _ (Ud u i v)).mono ?_;rintro e I ⟨x,rfl,E⟩;refine⟨x,rfl,?_⟩
 rw[o];exact VR B u i E
def VJ {A B:Type} (c:tP) (C:A->Prop) (a:A->B->Value) (f b:A->B->List aZ) (e:Ending) (w:World):Prop:=∃x y,C x∧e = .returned (a x y)∧St c (f x y) (b x y) w
theorem JV {j:Func} {a:List Value} {m:Nat} (l:j.ntmps=m) (k:Nat.ble a.length m=true):Fc ⟨m,[]⟩ (wJ 0 a) {tmps:=a.toArray++Array.replicate (j.ntmps - a.toArray.size) undef,defers:=[]}:=by
 have h:a.length<=m:=by simpa using k
 refine⟨rfl,by simp[l,h],?_⟩
 intro t v o;obtain⟨_,b⟩:=DC a 0 t v o;rw[Nat.sub_zero]at b;have i:t<a.length:=by
  rcases Nat.lt_or_ge t a.length with f|f
  ·exact f
  ·rw[List.getElem?_eq_none f]at b;cases b
 rw[Array.getElem?_append_left (by simpa using i)];simpa using b
structure tQ (P:Program) (c:tP) (n:Sz) (σ:Fr) (M L:List aZ) (o:Oper) (f:FuncId) (vs:List Value):Prop where
 run:∀a w,Fc n σ a->St c M L w->(execOp a.eval o).run P w = .ok (.enter f vs.toArray) w
theorem tQ.fn {f:FuncId} {xs:List Operand} {vs:List Value} {b:Array TypeId} (h:aW P f) (i:xs.map (ev σ)=vs.map some):tQ P c n σ M L ⟨d,.call ⟨.value (.func f),xs.toArray,b⟩,ty,pos,aft,g⟩ f vs:=⟨λa w s _=>by
 have e:=evs s i;simp[execOp,resolve,Act.eval,Deferred.ofValue,invoke,h _ w,e]⟩
theorem GT {f:FuncId} {t:Tmp} {h:List Operand} {us cs vs:List Value} {b:Array TypeId} (j:aW P f) (k:lk σ t=some (.func (.func f) #[] cs.toArray)) (m:h.map (ev σ)=us.map some) (l:us++cs=vs):tQ P c n σ M L ⟨d,.call ⟨.value (.tmp t),h.toArray,b⟩,ty,pos,aft,g⟩ f vs:=⟨λa w s _=>by
 have e:=evs s m;have i:a.eval (.tmp t) = .func (.func f) #[] cs.toArray:=s.eval (x:= .tmp t) k;subst l;simp[execOp,resolve,i,Deferred.ofValue,invoke,j _ w,e]⟩
def Ha (P:Program) (c:tP) (n:Sz) (σ:Fr) (M L:List aZ) (b:Func) (v:Value):Prop:=∀a w,Fc n σ a->St c M L w->(results b a.tmps).run P w = .ok v w
variable {fn:Func}
theorem Ha.r0 (b:fn.results = #[]):Ha P c n σ M L fn (.tuple #[]):=λa w _ _=>by simp[results,b]
theorem Ha.r1 {f:ResultVar} {h:Value} (b:fn.results = #[f]) (i:RV P c n σ M L f h):Ha P c n σ M L fn h:=λa w s t=>by
 have:=i a w s t;simp only[yG,b];simp[this]
theorem Ha.r2 {i j:ResultVar} {k l:Value} (b:fn.results = #[i,j]) (f:RV P c n σ M L i k) (h:RV P c n σ M L j l):Ha P c n σ M L fn (.tuple #[k,l]):=λa w s t=>by
 have f:=f a w s t;have h:=h a w s t;simp only[yG,b];simp[f,h]
theorem u_ {A B:Type} {m:Sz} {v:Value} {f:Exit} {C:A->Prop} {b:A->B->Value} {k j:A->B->List aZ} (x:A) (y:B) (l:C x) (i:f = .ret∨f = .normal) (q:Ha P c m σ' M L fn v) (u:v=b x y) (p:a_ M (k x y)) (o:aF [] L (j x y)) (h:m.ds=[]:=by rfl):
  J c m σ' M L (gE P fn (VJ c C b k j) f):=λa w s t=>by
 exact body_end i (s.defers.trans h) (q a w s t) ⟨x,y,l,by rw[u],t.weakE p o⟩
end
section
variable {P:Program} {rd:Option Nat} {c:tP} {n:Sz} {σ σ':Fr} {M L M' L':List aZ} {Q:Exit->Act->World->Prop} {ops:Array Oper} {rest:List Oper} {K:Act->World->Prop} {G:Act->World->Prop}
variable {d:Option Tmp} {D:Nat} {ty:TypeId} {pos:String} {aft:Array Edge} {g:Option (Nat×Bool)}
variable {α β:Type} {e:cY α} {r:eI α}
def amz (v:Value) (m:Nat):Prop:=match v with
 | .slice _ _ cap=>m<=cap
 |_=>False
theorem VW [cL P] {T E:TypeId} {R U u V:Nat} {z W:Value} {A:TypeDesc} {x p o q:Operand} {v:Value} {i k m:Int} {y:List α} (O:ev σ x=some v) (j:ev σ p=some (.int .i64 i)) (f:ev σ o=some (.int .i64 k)) (l:ev σ q=some (.int .i64 m)) (J:aE M L (Sl r v y))
  (I:cL.tab P T=some ⟨.slice E,R,U,z⟩) (H:cL.tab P E=some ⟨A,u,V,W⟩) (h:0<=i∧i<=k∧k<=m∧m<=y.length):Y P c n σ M L ⟨d,.slice T x (some p) (some o) (some q),ty,pos,aft,g⟩
   (match v with|.slice a _ _=> .slice (if m.toNat=i.toNat then a else a.map (·.add (i.toNat*u))) (k.toNat - i.toNat) (m.toNat - i.toNat)|v=>v):=λa w s t=>by
 obtain⟨S,X,b,N,hb,_⟩:=J.st t;subst N;have B:0<=m∧m<=(b:Int):=by omega
 have C:0<=k∧k<=((m.toNat:Nat):Int):=by omega
 have F:0<=i∧i<=((k.toNat:Nat):Int):=by omega
 simp[execOp,s.eval O,s.eval j,s.eval f,s.eval l,Instr.sliceAt,Instr.slice,(cL.ok I).run_und w,Instr.sliceBounds,Instr.sliceBound,asIntOf,(cL.ok H).run_size w,B,C,F];rw[if_pos (by omega),if_pos (by omega)]
theorem Oj (i:Nat) {k:Int} {vs:List Value} {xss:List (List α)} (E:M[i]? = some (kX e vs xss)) (h:0<=k∧k<xss.length):
  nQ M L (Ar e (at' vs k) (at' xss k)::M.set i (kX e (vs.set k.toNat (.slice none 0 0)) (xss.set k.toNat []))) L:=λc w t=>by
 obtain⟨X,F,s,W⟩:=t;obtain⟨A,G,U,u,O⟩:=s.res i _ E;have R:k.toNat<vs.length:=by omega
 have S:i<M.length:=(List.getElem?_eq_some_iff.1 E).1;have B:=U k.toNat _ _ (gR h.1 (by omega)) (gR h.1 h.2);refine⟨X,λj q=>match j with|0=>G k.toNat q|j+1=>(j=i∧∃p,p≠k.toNat∧G p q)∨(j≠i∧F j q),⟨?_,?_,?_⟩,λf E=> ?_⟩
 ·intro j m y;cases j with
  |zero=>simp at y;subst y;exact B
  | succ j =>
   rw[List.getElem?_cons_succ]at y;by_cases N:j=i
   ·subst N;rw[List.getElem?_set_self S]at y;cases y;refine⟨by simp[A],λp q=>p≠k.toNat∧G p q,λp v V H I=> ?_,λp q a=> .inl ⟨rfl,p,a⟩,λT C q b l=>O _ _ q b.2 l.2⟩
    by_cases x:p=k.toNat
    ·subst x;rw[List.getElem?_set_self R]at H;rw[List.getElem?_set_self (by omega)]at I;cases H;cases I;exact⟨by simp,rfl,.inl ⟨rfl,rfl⟩⟩
    ·rw[List.getElem?_set_ne (Ne.symm x)]at H I;exact aZ.same (f:=Ar e v V) (U p v V H I) (λq a=>⟨x,a⟩) (λ_ _ _=>rfl)
   ·rw[List.getElem?_set_ne (Ne.symm N)]at y;exact aZ.same (s.res j m y) (λq a=> .inr ⟨N,a⟩) (λ_ _ _=>rfl)
 ·intro j q a;cases j with
  |zero=>exact s.rng i q (u _ q a)
  |succ j=>
   rcases a with⟨_,p,_,a⟩|⟨_,a⟩
   ·exact s.rng i q (u _ q a)
   ·exact s.rng j q a
 ·intro T C q b l;cases T with
  | zero =>
   cases C with
   |zero=>rfl
   |succ C=>
    rcases l with⟨_,p,o,l⟩|⟨o,l⟩
    ·exact absurd (O _ _ q l b) o
    ·exact absurd (s.dis _ _ q l (u _ q b)) o
  | succ T =>
   cases C with
   |zero=>
    rcases b with⟨_,p,o,b⟩|⟨o,b⟩
    ·exact absurd (O _ _ q b l) o
    ·exact absurd (s.dis _ _ q b (u _ q l)) o
   |succ C=>
    congr 1;rcases b with⟨J,p,_,b⟩|⟨J,b⟩<;>rcases l with⟨x,Y,_,l⟩|⟨x,l⟩
    ·rw[J,x]
    ·exact absurd (s.dis _ _ q l (u _ q b)) x
    ·exact absurd (s.dis _ _ q b (u _ q l)) J
    ·exact s.dis _ _ q b l
 ·refine aZ.same (W f E) (λq a=>⟨a.1,λj z=> ?_⟩) (λ_ _ _=>rfl);cases j with
  |zero=>exact a.2 i (u _ q z)
  |succ j=>
   rcases z with⟨_,p,_,z⟩|⟨_,z⟩
   ·exact a.2 i (u _ q z)
   ·exact a.2 j z
theorem Of (i j:Nat) {u:Value} {k:Int} {vs:List Value} {xss:List (List α)} {ys:List α} (a:Nat.beq i j=false) (b:M[i]? = some (kX e (vs.set k.toNat (.slice none 0 0)) (xss.set k.toNat []))) (f:M[j]? = some (Ar e u ys)) (h:0<=k∧k<(xss.set k.toNat []).length):
  nQ M L ((M.set i (kX e (vs.set k.toNat u) (xss.set k.toNat ys))).eraseIdx j) L:=by
 have:=xV (L:=L) i j a b f h;rwa[List.set_set,List.set_set]at this
theorem Li {α:Type} [Inhabited α] (l:List α) {j k:Int} (y:α) (h:j.toNat≠k.toNat):at' (l.set j.toNat y) k=at' l k:=by
 rw[at',at',List.getD_eq_getElem?_getD,List.getD_eq_getElem?_getD,List.getElem?_set_ne h]
theorem zJ [cL P] (i:Nat) {r:eI α} (f:e.Fits r) {x y:Operand} {u o:Value} {k j:Int} {vs:List Value} {a:List (List α)} {l b:List α} {T E:TypeId} {S U m s:Nat} {z t:Value} {v:TypeDesc} (N:ev σ x=some (at' vs k)) (O:ev σ y=some u) (H:M[i]? = some (kX e (vs.set j.toNat o) (a.set j.toNat b))) (I:aE M L (Sl r u l))
  (F:cL.tab P T=some ⟨.slice E,S,U,z⟩) (C:cL.tab P E=some ⟨v,m,s,t⟩) (A:e.sz=m) (B:Nat.ble s 1024=true) (w:0<=k∧k<a.length) (J:((at' a k).length:Int)+l.length<=1099511627) (R:t.cells.size=m) (h:j.toNat≠k.toNat):
  aM P c n σ M L ⟨d,.call ⟨.builtin .append,#[x,y],#[T,T]⟩,ty,pos,aft,g⟩ (λp:Value=>p) (λp=>M.set i (kX e ((vs.set j.toNat o).set k.toNat p) ((a.set j.toNat b).set k.toNat (at' a k++l)))) (λ_=>L):=by
 have q:at' (a.set j.toNat b) k=at' a k:=Li _ _ h;have:=qO (P:=P) (c:=c) (n:=n) (σ:=σ) (M:=M) (L:=L) (d:=d) (ty:=ty) (pos:=pos) (aft:=aft) (g:=g) (x:=x) (y:=y) (u:=u) (k:=k) (vs:=vs.set j.toNat o) (xss:=a.set j.toNat b) (ys:=l) i f (by rw[Li _ _ h];exact N) O H I F C A B (by simpa using w) (by rw[q];exact J) R;rwa[q]at this
theorem Cb (q:Nat) {vs:List Value} {a:List (List α)} {k j:Int} {u z:Value} (x:M[q]? = some (kX e ((vs.set k.toNat u).set j.toNat z) a)) (i:k.toNat≠j.toNat) (h:0<=k∧k<a.length):∀c w,St c M L w->Go.Sx.one u=true:=λc w t=>by
 obtain⟨S,v,A,p,_⟩:=t.res x;have f:k.toNat<vs.length:=by simp at v;omega
 obtain⟨_,_,s⟩:=p k.toNat u _ (by rw[List.getElem?_set_ne (Ne.symm i),List.getElem?_set_self f]) (List.getElem?_eq_getElem (by omega));rcases s with⟨l,_⟩|⟨b,y,m,T,o,l,_⟩<;>(rw[l];rfl)
theorem IA {A:Type} {b:A->Value} {M' L':A->List aZ} {f:Op} (j:aM P c n σ M L ⟨none,f,ty,pos,aft,none⟩ b M' L') (h:∀x,J c n σ (M' x) (L' x) (wpList P ops Q rest)):
  J c n σ M L (wpList P ops Q (⟨none,f,ty,pos,aft,none⟩::rest)):=λa w s t=>
 mG Z (Kn (nD (λm l ⟨x,i,k⟩=>by subst i;exact h x _ l s k) (j a w s t)))
end
section
variable {P:Program} {rd:Option Nat} {c:tP} {n:Sz} {σ σ':Fr} {M L M' L':List aZ} {Q:Exit->Act->World->Prop} {ops:Array Oper} {rest:List Oper} {K:Act->World->Prop} {G:Act->World->Prop}
variable {d:Option Tmp} {D:Nat} {ty:TypeId} {pos:String} {aft:Array Edge} {g:Option (Nat×Bool)}
variable {α β:Type} {e:cY α} {r:eI α}
theorem NU [cL P] (j:Nat) {T:TypeId} {s2:Nat} {z:Value} {dT:TypeDesc} {x y:Operand} {v u:Value} {i:Int} {m:List α} (yv:α) (hx:ev σ x=some (Dz v (i.toNat*1))) (hy:ev σ y=some u) (hu:e.enc yv=[u]) (B:one u=true)
  (X:M[j]? = some (Ar e v m)) (hT:cL.tab P T=some ⟨dT,1,s2,z⟩) (N:e.sz=1) (h0:0<=i) (W:i<m.length):
  aM P c n σ M L ⟨none,.store T x y,ty,pos,aft,none⟩ (λ_:Unit=>undef) (λ_=>M.set j (Ar e v (m.set i.toNat yv))) (λ_=>L):=λa w s t=>by
 obtain⟨F,J⟩:=t.res X;have Y:i.toNat<m.length:=by omega
 have E:m[i.toNat]? = some m[i.toNat]:=List.getElem?_eq_getElem Y;have H:m≠[]:=by intro e;subst e;simp at Y
 obtain⟨p,hp⟩:∃p,e.enc m[i.toNat]=[p]:=List.length_eq_one_iff.1 ((e.len _).trans N);have f:=C_.cell J E (j:=0) (u:=p) (by rw[hp];rfl);rw[N,Nat.add_zero,Nat.mul_one]at f;rw[Nat.mul_one]at hx;have o:=NL J H i.toNat;have I:(execOp a.eval ⟨none,.store T x y,ty,pos,aft,none⟩).run P w = .ok .skip (w.setCell (JK v i.toNat) u):=by
  simp only[execOp,s.eval hx,s.eval hy,Dz];simp[CK (cL.ok hT) Z B f o]
 simp only[Oper.wp,I,Oper.upon];refine⟨(),trivial,t.upd X Z Z Z (by simp[World.setCell]) λF J _=> ?_⟩
 obtain⟨hl,W,S⟩:=J;rcases S with⟨_,S⟩|⟨b,l,A,T',O,hv,C,hb,hk,hc,ht⟩
 ·exact absurd S H
 ·subst hv;have ha:JK (.slice (some ⟨b,l,none⟩) m.length A) i.toNat=⟨b,l+i.toNat,none⟩:=by simp[JK,dW]
  rw[ha];refine⟨λk _ U=>Below.heap_setCell _ _ _ _ (λe=>U (by simp only at e;subst e;exact C)),F,⟨by simpa using hl,?_,.inr ⟨b,l,A,T',O.setIfInBounds (l+i.toNat) u,by simp,C,?_,by simpa using hk,by simpa using hc,?_⟩⟩,λ_ h=> .inl h⟩
  ·rw[wE N hu,List.all_eq_true];intro q V;rcases List.mem_or_eq_of_mem_set V with R|R
   ·exact List.all_eq_true.1 W q R
   ·rw[R];exact B
  ·simp[World.setCell,Array.getElem?_modify,hb]
  ·rw[wE N hu,<-ht,Array.toList_setIfInBounds,List.length_set,<-take_set];congr 1;rw[List.drop_set,if_neg (by omega),Nat.add_sub_cancel_left]
theorem NT [cL P] (i:Nat) {T j:TypeId} {C:Nat} {z:Value} {m:TypeDesc} {x y:Operand} {b o:Nat} {cs:List Value} {v:Value} (A:ev σ x=some (.pointer (some ⟨b,o,none⟩)))
  (B:ev σ y=some v) (u:one v=true) (l:M[i]? = some (bU b cs j)) (p:cL.tab P T=some ⟨m,1,C,z⟩) (q:Nat.blt o cs.length=true):
  aM P c n σ M L ⟨none,.store T x y,ty,pos,aft,none⟩ (λ_:Unit=>undef) (λ_=>M.set i (bU b (cs.set o v) j)) (λ_=>L):=λa w s t=>by
 obtain⟨F,k⟩:=t.res l;have h:o<cs.length:=by simpa [Nat.blt_eq]using q
 have f:(execOp a.eval ⟨none,.store T x y,ty,pos,aft,none⟩).run P w = .ok .skip (w.setCell ⟨b,o,none⟩ v):=by
  simp[execOp,s.eval A,s.eval B,CK (cL.ok p) Z u (bU.cell k (List.getElem?_eq_getElem h)) (NM k o)]
 simp only[Oper.wp,f,Oper.upon];exact⟨(),trivial,t.store l v⟩
theorem Bz [cL P] (j q:Nat) {T:TypeId} {E:Nat} {z:Value} {m:TypeDesc} {x y:Operand} {v u:Value} {i:Int} {vs b:List Value} {f:List (List α)} (h:0<=i∧i<f.length) (B:ev σ x=some (Dz v (i.toNat*1))) (C:ev σ y=some u)
  (p:M[j]? = some (Ar cY.raw v vs)) (A:M[q]? = some (kX e b f)) (F:b.length=vs.length) (k:one u=true) (o:cL.tab P T=some ⟨m,1,E,z⟩):
  aM P c n σ M L ⟨none,.store T x y,ty,pos,aft,none⟩ (λ_:Unit=>undef) (λ_=>M.set j (Ar cY.raw v (vs.set i.toNat u))) (λ_=>L):=λa w s t=>by
 have l:b.length=f.length:=by obtain⟨_,h⟩:=t.res A;exact h.1
 exact NU j u B C Z k p o Z h.1 (by omega) a w s t
section
variable {l:List Oper} {m:List Nat} {k0:Nat} {H Bs:List (Nat×List aZ×List aZ)} {rs:List Nat}
theorem Dj {A:Type} {j:A->Value} {M' L':A->List aZ} {i:Nat} {b:Op}
  (o:l[i]? = some ⟨none,b,ty,pos,aft,none⟩) (v:Nat.blt i k0=true) (y:dY b=true) (z:aM P c n σ M L ⟨none,b,ty,pos,aft,none⟩ j M' L')
  (q:∀x,Ac (before m i) (M' x) (L' x) Bs) (h:∀x,JR c n σ (M' x) (L' x) ((i,M,L)::H) Bs (RW P l.toArray Q (before m) (cR l) k0 rs)):
  JR c n σ M L H Bs (RW P l.toArray Q (before m) (cR l) k0 (i::rs)):=λa w X Y s t u k=>by
 have f:l.toArray[i]? = some ⟨none,b,ty,pos,aft,none⟩:=by simpa using o
 simp only[RW,f];rw[if_pos (by simp[Region.wanted])];refine .inr (.inr ⟨by simpa [Nat.blt_eq]using v,by simp[cR,o,y],nD ?_ (z a w s t)⟩);rintro C B ⟨x,rfl,p⟩;exact⟨(q x).use p k,h x _ B _ Y s p ⟨rfl,t,u⟩ k⟩
end
theorem GZ {A B:Type} {f:FuncId} {j:Func} {b:Code} {k:List Value} {m:Nat} {q:Op} (C:A->Prop) (i:A->B->Value) (o l:A->B->List aZ) (E:tQ P c n σ M L ⟨d,q,ty,pos,aft,g⟩ f k) (F:P.funcs[f]? = some j) (z:j.body=some b) (I:j.ntmps=m) (H:Nat.ble k.length m=true)
  (u:J c ⟨m,[]⟩ (wJ 0 k) M L (b.wpr none P (gE P j (VJ c C i o l)))):
  aM P c n σ M L ⟨d,q,ty,pos,aft,g⟩ (λx:{p:A×B // C p.1}=>i x.1.1 x.1.2) (λx=>o x.1.1 x.1.2) (λx=>l x.1.1 x.1.2):=λa w s t=>by
 have h:=E.run a w s t;simp only[Oper.wp,h,Oper.upon];refine(sL F z (u _ w (JV I H) t)).mono ?_;rintro e O ⟨x,y,v,rfl,N⟩;exact⟨⟨(x,y),v⟩,rfl,N⟩
theorem By {A B:Type} {f:FuncId} {j:Func} {h:Code} {vs:List Value} {m:Nat} {o:Op} (C:A->Prop) (i:A->B->Value) (l k:A->B->List aZ) (v:tQ P c n σ M L ⟨some D,o,ty,pos,aft,none⟩ f vs) (w:P.funcs[f]? = some j) (u:j.body=some h) (y:j.ntmps=m) (x:Nat.ble vs.length m=true) (t:Nat.blt D n.sz=true)
  (p:J c ⟨m,[]⟩ (wJ 0 vs) M L (h.wpr none P (gE P j (VJ c C i l k)))) (q:∀a b,C a->J c n ((D,i a b)::σ) (l a b) (k a b) (wpList P ops Q rest)):J c n σ M L (wpList P ops Q (⟨some D,o,ty,pos,aft,none⟩::rest)):=
 aH (GZ C i l k v w u y x p) t fun⟨⟨a,b⟩,s⟩=>q a b s
section
variable {l:List Oper} {mm:List Nat} {k0:Nat} {H Bs:List (Nat×List aZ×List aZ)} {rs:List Nat}
theorem Sk {A B:Type} {i:Nat} {f:FuncId} {p:Func} {h:Code} {vs:List Value} {m:Nat} {q:Op} (C:A->Prop) (j:A->B->Value) (o k:A->B->List aZ) (E:l[i]? = some ⟨some D,q,ty,pos,aft,none⟩) (F:Nat.blt i k0=true) (I:dY q=true) (y:tQ P c n σ M L ⟨some D,q,ty,pos,aft,none⟩ f vs) (z:P.funcs[f]? = some p) (x:p.body=some h) (O:p.ntmps=m) (N:Nat.ble vs.length m=true) (w:Nat.blt D n.sz=true)
  (u:∀a b,Ac (before mm i) (o a b) (k a b) Bs) (s:J c ⟨m,[]⟩ (wJ 0 vs) M L (h.wpr none P (gE P p (VJ c C j o k)))) (t:∀a b,C a->JR c n ((D,j a b)::σ) (o a b) (k a b) ((i,M,L)::H) Bs (RW P l.toArray Q (before mm) (cR l) k0 rs)):
  JR c n σ M L H Bs (RW P l.toArray Q (before mm) (cR l) k0 (i::rs)):=
 JR.loud E F I (GZ C j o k y z x O N s) w (λ_=>u _ _) fun⟨⟨a,b⟩,v⟩=>t a b v
theorem Vz {A B:Type} {i j:Nat} {s:Bool} {f:FuncId} {q:Func} {h:Code} {vs:List Value} {m:Nat} {t:Op} (C:A->Prop) (k:A->B->Value) (p o:A->B->List aZ) (N:l[i]? = some ⟨some D,t,ty,pos,aft,some (j,s)⟩) (O:Nat.blt i k0=true) (R:dY t=true) (I:gv l.toArray σ j=some s) (E:tQ P c n σ M L ⟨some D,t,ty,pos,aft,some (j,s)⟩ f vs) (F:P.funcs[f]? = some q) (z:q.body=some h) (T:q.ntmps=m) (S:Nat.ble vs.length m=true) (y:Nat.blt D n.sz=true)
  (w:∀a b,Ac (before mm i) (p a b) (o a b) Bs) (u:J c ⟨m,[]⟩ (wJ 0 vs) M L (h.wpr none P (gE P q (VJ c C k p o)))) (v:∀a b,C a->JR c n ((D,k a b)::σ) (p a b) (o a b) ((i,M,L)::H) Bs (RW P l.toArray Q (before mm) (cR l) k0 rs)):
  JR c n σ M L H Bs (RW P l.toArray Q (before mm) (cR l) k0 (i::rs)):=
 VA N O R I (GZ C k p o E F z T S u) y (λ_=>w _ _) fun⟨⟨a,b⟩,x⟩=>v a b x
end
theorem Ei [cL P] {T E:TypeId} {k q u b A:Nat} {z B:Value} {f:TypeDesc} {x y:Operand} {v:Value} {o:Nat} {i:Int} (m:ev σ x=some (Dz v o)) (p:ev σ y=some (.int .i64 i))
  (l:cL.tab P T=some ⟨.array k E,q,u,z⟩) (j:cL.tab P E=some ⟨f,b,A,B⟩) (_h3:(b==0)=false) (h:0<=i∧i<(k:Int)):
  Y P c n σ M L ⟨d,.indexAddr T x y,ty,pos,aft,g⟩ (Dz v (o+i.toNat*b)):=λa w s t=>by
 simp[execOp,s.eval m,s.eval p,Instr.indexAt,asIntOf,(cL.ok l).run_und w,h,Instr.sureAddr,Dz,(cL.ok j).run_size w,IJ]
theorem bX {x:Operand} {b o:Nat} (f:ev σ x=some (.pointer (some ⟨b,o,none⟩))):Y P c n σ M L ⟨d,.nilCheck x,ty,pos,aft,g⟩ (.pointer (some ⟨b,o,none⟩)):=λa w s t=>by
 simp[execOp,s.eval f]
theorem NV [cL P] [Inhabited α] (j:Nat) {T:TypeId} {s2 k o q:Nat} {z:Value} {dT:TypeDesc} {x y:Operand} {v u:Value} {C:List Value} {i:Int} {p:List α} (N:α) (h:0<=i∧i<p.length) (hx:ev σ x=some (Dz v (i.toNat*q+o))) (hy:ev σ y=some u)
  (hf:M[j]? = some (Ar e v p)) (hq:e.sz=q) (V:u.cells=C.toArray) (hk:C.length=k) (ho:Nat.ble (o+k) q=true) (J:e.enc N=(e.enc (at' p i)).take o++C++(e.enc (at' p i)).drop (o+k)) (X:C.all one=true) (hT:cL.tab P T=some ⟨dT,k,s2,z⟩):
  aM P c n σ M L ⟨none,.store T x y,ty,pos,aft,none⟩ (λ_:Unit=>undef) (λ_=>M.set j (Ar e v (p.set i.toNat N))) (λ_=>L):=λa w s t=>by
 subst hq hk;have ar:o+C.length<=e.sz:=by simpa using ho
 have hi:i.toNat<p.length:=by omega
 have t0:=t;obtain⟨ak,FF,hO,ag⟩:=t0;obtain⟨h0,A,hh⟩:=hO.res j _ hf;rcases hh with⟨_,rfl⟩|⟨b,m,W,T',f,rfl,Y,aa,ab,hc,ht⟩
 ·simp at hi
 -- the parts of the row
 obtain⟨l,B,E,I,hl⟩:∃l B E,p=l++B::E∧l.length=i.toNat:=⟨p.take i.toNat,p[i.toNat],p.drop (i.toNat+1),by rw[List.getElem_cons_drop,List.take_append_drop],by simp;omega⟩
 have ai:at' p i=B:=by
  rw[at',List.getD_eq_getElem?_getD,<-hl,I,List.getElem?_append_right (Nat.le_refl _)];simp
 rw[ai]at J;have eE:=e.len B;have eA:(cellsOf e l).length=i.toNat*e.sz:=by rw[dX,hl]
 have F:cellsOf e p=cellsOf e l++(e.enc B++cellsOf e E):=by rw[I];simp[cellsOf]
 have U:cellsOf e (p.set i.toNat N)=cellsOf e l++(e.enc N++cellsOf e E):=by
  have:p.set i.toNat N=l++N::E:=by rw[I,<-hl,List.set_append_right _ _ (Nat.le_refl _)];simp
  rw[this];simp[cellsOf]
 have ap:p.length*e.sz<=W*e.sz:=Nat.mul_le_mul_right _ ab;obtain⟨O,R,S,hH⟩:∃O R,f.toList=O++(cellsOf e l++(e.enc B++(cellsOf e E++R)))∧O.length=m:=by
  refine⟨f.toList.take m,(f.toList.drop m).drop (p.length*e.sz),?_,by simp;omega⟩
  have e1:cellsOf e l++(e.enc B++(cellsOf e E++(f.toList.drop m).drop (p.length*e.sz)))=f.toList.drop m:=by
   have:cellsOf e l++(e.enc B++(cellsOf e E++(f.toList.drop m).drop (p.length*e.sz)))=cellsOf e p++(f.toList.drop m).drop (p.length*e.sz):=by rw[F];simp
   rw[this,<-ht,List.take_append_drop]
  rw[e1,List.take_append_drop]
 have an:f.size=f.toList.length:=by simp
 have al:f.toList.take (m+(i.toNat*e.sz+o))=O++(cellsOf e l++(e.enc B).take o):=by
  have:f.toList=(O++(cellsOf e l++(e.enc B).take o))++((e.enc B).drop o++(cellsOf e E++R)):=by
   rw[S,List.append_assoc,List.append_assoc,<-List.append_assoc ((e.enc B).take o),List.take_append_drop]
  rw[this];exact List.take_left' (by simp[hH,eA,eE];omega)
 have am:f.toList.drop (m+(i.toNat*e.sz+o)+C.length)=(e.enc B).drop (o+C.length)++(cellsOf e E++R):=by
  have:f.toList=(O++(cellsOf e l++(e.enc B).take (o+C.length)))++((e.enc B).drop (o+C.length)++(cellsOf e E++R)):=by
   rw[S,List.append_assoc,List.append_assoc,<-List.append_assoc ((e.enc B).take (o+C.length)),List.take_append_drop]
  rw[this];exact List.drop_left' (by simp[hH,eA,eE];omega)
 have af:(i.toNat+1)*e.sz<=p.length*e.sz:=Nat.mul_le_mul_right _ (by omega);have aq:(i.toNat+1)*e.sz=i.toNat*e.sz+e.sz:=by rw[Nat.add_mul,Nat.one_mul]
 have ac:m+(i.toNat*e.sz+o)+0+C.length<=f.size:=by omega
 have ae:=run_storeCells_at P b (m+(i.toNat*e.sz+o)) T' C 0 f w aa ac (λu V=>pZ (List.all_eq_true.1 X u V));simp only[Nat.add_zero]at ae;have au:(cL.ok hT).run_size w=(cL.ok hT).run_size w:=rfl;have ad:(execOp a.eval ⟨none,.store T x y,ty,pos,aft,none⟩).run P w = .ok .skip (w.setRow b (f.toList.take (m+(i.toNat*e.sz+o))++C++f.toList.drop (m+(i.toNat*e.sz+o)+C.length)).toArray):=by
  simp[execOp,s.eval hx,s.eval hy,Dz,JK,Instr.storeAt,Instr.sureAddr,storeVar,V,(cL.ok hT).run_size w,dW,ae]
 simp only[Oper.wp,ad,Oper.upon];refine⟨(),trivial,?_⟩
 refine IE ak hO ag hf Z Z Z (by simp) (λk _ aj=>setRow_other w b k _ (λe=>aj (by subst e;exact Y))) (F':=FF j) ?_ (λk hk=> .inl hk);have H:(e.enc N).length=e.sz:=e.len N;refine⟨by simpa using h0,?_,.inr ⟨b,m,W,T',_,by simp,Y,setRow_heap w b _ _ T' _ aa,by simpa using ab,?_,?_⟩⟩
 ·rw[U];rw[F]at A;simp only[List.all_append,Bool.and_eq_true]at A ⊢;refine⟨A.1,?_,A.2.2⟩
  rw[J];simp only[List.all_append,Bool.and_eq_true];refine⟨⟨List.all_eq_true.2 λu V=>List.all_eq_true.1 A.2.1 u (List.mem_of_mem_take V),X⟩,List.all_eq_true.2 λu V=>List.all_eq_true.1 A.2.1 u (List.mem_of_mem_drop V)⟩
 ·simp only[List.size_toArray,List.length_append,List.length_take,List.length_drop];omega
 ·show((f.toList.take _++C++f.toList.drop _).drop m).take ((p.set i.toNat N).length*e.sz)=_;rw[al,am,U,J,List.length_set];have e3:(O++(cellsOf e l++(e.enc B).take o)++C++((e.enc B).drop (o+C.length)++(cellsOf e E++R)))=O++((cellsOf e l++(((e.enc B).take o++C++(e.enc B).drop (o+C.length))++cellsOf e E))++R):=by simp
  rw[e3,<-hH,List.drop_left];refine List.take_left' ?_;have ah:(cellsOf e E).length=E.length*e.sz:=dX e E;have ao:p.length=i.toNat+1+E.length:=by rw[I,<-hl];simp;omega
  rw[J]at H;rw[List.length_append,List.length_append,H,eA,ah,ao,Nat.add_mul,Nat.add_mul,Nat.one_mul];omega
end
def Dfr (D:Nat):aZ where
 p w F:=F D∧w.heap[D]? = some (.deferred (some []))
 mono:=fun⟨b,a⟩ h=>by
  obtain⟨c,d⟩:=h D b (Array.getElem?_eq_some_iff.1 a).1;exact⟨c,by rw[d];exact a⟩
structure VN where
 n:Nat
 σ:Fr
 ps:Array Tmp
 assign:Code
 body:Code
 D:Nat
def Lp (l:Nat) (R:VN) (i:LoopState) (a:Option Code):aZ where
 p w F:=F l∧∃(fn:FuncId) (tmps:Array Value),tmps.size=R.n∧(∀t v,lk R.σ t=some v->tmps[t]? = some v)∧
  w.heap[l]? = some (.loop {state:=i,pending:=a,fn:=fn,tmps:=tmps,params:=R.ps,assign:=R.assign,body:=R.body,defers:=R.D})
 mono:=fun⟨c,fn,tmps,d,e,b⟩ h=>by
  obtain⟨f,g⟩:=h l c (Array.getElem?_eq_some_iff.1 b).1;exact⟨f,fn,tmps,d,e,by rw[g];exact b⟩
def XM (D:Nat):Deferred:={target:= .collected D,args:= #[]}
def xL (l:Nat):Value:= .func (.yield l) #[] #[]
section
variable {P:Program} {rd:Option Nat} {c:tP} {n m:Sz} {σ σ':Fr} {M L:List aZ} {Q:Exit->Act->World->Prop} {K G:Act->World->Prop}
theorem St.putLp {w:World} {l i:Nat} {R:VN} {y d:LoopState} {b a:Option Code} (t:St c M L w) (v:M[i]? = some (Lp l R y b)) {r:Loop} (o:w.heap[l]? = some (.loop r)):
  St c (M.set i (Lp l R d a)) L (w.putObj l (.loop {r with state:=d,pending:=a})):=by
 refine t.upd v Z Z Z (by simp) λF j _=>⟨λk _ x=> ?_,F,?_,λ_ h=> .inl h⟩
 ·exact World.putObj_heap_other (λe=>x (by subst e;exact j.1))
 ·obtain⟨q,p,f,s,u,g⟩:=j;rw[g]at o;cases o;exact⟨q,p,f,s,u,World.putObj_heap_same (Array.getElem?_eq_some_iff.1 g).1⟩
def VO (P:Program) (n:Sz) (σ:Fr) (l D:Nat) (Q:Exit->Act->World->Prop) (e:Ending) (w:World):Prop:=
 ∀a,Fc ⟨n.sz,XM D::n.ds⟩ σ a->rangePost (FR none) 0 P l Q a e w
theorem NP {g:Operand} {ps:Array Tmp} {assign body:Code} {f:FuncId} {fn:Func} {code:Code} {cs:List Value} {k:Nat} (hb:aW P f) (hx:ev σ g=some (.func (.func f) #[] cs.toArray)) (hf:P.funcs[f]? = some fn) (hbd:fn.body=some code) (hn:fn.ntmps=k) (hm:Nat.ble (cs.length+1) k=true)
  (h:∀l D,J c ⟨k,[]⟩ (wJ 0 (xL l::cs)) (Lp l ⟨n.sz,σ,ps,assign,body,D⟩ .ready none::Dfr D::M) L (code.wpr none P (gE P fn (VO P n σ l D Q)))):
  J c n σ M L ((Code.rangeFunc g ps assign body).wpr none P Q):=λa w s t=>by
 refine wpIn_rangeFunc λfn' _=> ?_;have hev:a.eval g = .func (.func f) #[] cs.toArray:=s.eval hx;let W:World:=(w.alloc (.deferred (some []))).alloc (.loop {state:= .ready,pending:=none,fn:=fn',tmps:=a.tmps,params:=ps,assign:=assign,body:=body,defers:=w.heap.size});refine⟨_,_,_,{target:= .fn (.func f) cs.toArray,args:= #[xL (w.heap.size+1)]},W,f,(xL (w.heap.size+1)::cs).toArray,W,run_enterLoop_outer fn' a.tmps ps assign body,?_,λ_ _=>trivial,?_,(λhc=>by cases hc),?_⟩
 ·have hc:∀v,a.eval (.const v)=v:=λ_=>rfl;simp[resolve,hev,hc,Deferred.ofValue,xL,W]
 ·simp[invoke,hb _ _,xL]
 ·have t1:St c (Dfr w.heap.size::M) L (w.alloc (.deferred (some []))):=t.push _ ⟨rfl,heap_alloc_new w _⟩;have t2:St c (Lp (w.heap.size+1) ⟨n.sz,σ,ps,assign,body,w.heap.size⟩ .ready none::Dfr w.heap.size::M) L ((w.alloc (.deferred (some []))).alloc (.loop {state:= .ready,pending:=none,fn:=fn',tmps:=a.tmps,params:=ps,assign:=assign,body:=body,defers:=w.heap.size})):=by
   have:=t1.push (.loop {state:= .ready,pending:=none,fn:=fn',tmps:=a.tmps,params:=ps,assign:=assign,body:=body,defers:=w.heap.size}) (m:=Lp (w.heap.size+1) ⟨n.sz,σ,ps,assign,body,w.heap.size⟩ .ready none)
    ⟨by simp,fn',a.tmps,s.size,s.slot,by rw[<-World.size_alloc w (.deferred (some []))];exact heap_alloc_new _ _⟩
   exact this
  refine SH ((sL hf hbd (h (w.heap.size+1) w.heap.size _ _ (JV hn (by simpa using hm)) t2)).mono ?_);intro e w' he;exact he _ ⟨by simp[XM,s.defers],s.size,s.slot⟩
theorem Vx {f:Func} {b:Exit} {v:Value} {l D i:Nat} {R:VN} (e:b = .ret∨b = .normal) (j:M[i]? = some (Lp l R .ready none)) (q:Ha P c m σ' M L f v) (h:J c ⟨n.sz,XM D::n.ds⟩ σ (M.set i (Lp l R .exhausted none)) L (Q .normal)) (d:m.ds=[]:=by rfl):
  J c m σ' M L (gE P f (VO P n σ l D Q) b):=λa w s t=>by
 refine body_end e (s.defers.trans d) (q a w s t) λo r=> ?_;obtain⟨F,u,p,k,x,y,g⟩:=t.res j;exact⟨none,_,run_endLoop g (by simp),h o _ r (t.putLp j g)⟩
theorem Zl {f:Func} {b:Exit} {v:Value} {l D i:Nat} {R:VN} (e:b = .ret∨b = .normal) (j:M[i]? = some (Lp l R .done (some .ret))) (q:Ha P c m σ' M L f v) (h:J c ⟨n.sz,XM D::n.ds⟩ σ (M.set i (Lp l R .exhausted (some .ret))) L (Q .ret)) (d:m.ds=[]:=by rfl):
  J c m σ' M L (gE P f (VO P n σ l D Q) b):=λa w s t=>by
 refine body_end e (s.defers.trans d) (q a w s t) λo r=> ?_;obtain⟨F,u,p,k,x,y,g⟩:=t.res j;exact⟨some .ret,_,run_endLoop g (by simp),wpIn_ret (h o _ r (t.putLp j g))⟩
def Vl (P:Program) (l:Nat) (G:Act->World->Prop) (a:Act) (w:World):Prop:=∃b,(Instr.beginRound l).run P w = .ok () b∧G a b
theorem Si {l i:Nat} {R:VN} {b:Option Code} (e:M[i]? = some (Lp l R .ready b)) (h:J c n σ (M.set i (Lp l R .busy b)) L G):J c n σ M L (Vl P l G):=λa w s t=>by
 obtain⟨F,j,g,f,k,o,d⟩:=t.res e;exact⟨_,run_beginRound d Z,h a _ s (t.putLp e d)⟩
def VP (n:Sz) (σ:Fr) (d:Nat) (K:Act->World->Prop) (e:Ending) (w:World):Prop:=∃v,e = .returned v∧∀a,Fc n ((d,v)::σ) a->K a w
theorem Jd {l i d:Nat} {R:VN} {b:Option Code} (f:M[i]? = some (Lp l R .busy b)) (h:J c m ((d,.bool true)::σ') (M.set i (Lp l R .ready none)) L K):J c n σ M L (roundPost P l (VP m σ' d K) .normal):=λa w s t=>by
 obtain⟨F,p,k,g,q,r,e⟩:=t.res f;exact⟨_,_,run_endRound none e,_,rfl,λj o=>h j _ o (t.putLp f e)⟩
theorem Vy {l i d:Nat} {R:VN} {b:Option Code} (f:M[i]? = some (Lp l R .busy b)) (h:J c m ((d,.bool false)::σ') (M.set i (Lp l R .done (some .ret))) L K):J c n σ M L (roundPost P l (VP m σ' d K) .ret):=λa w s t=>by
 obtain⟨F,p,k,g,q,r,e⟩:=t.res f;exact⟨_,_,run_endRound (some .ret) e,_,rfl,λj o=>h j _ o (t.putLp f e)⟩
def Fw:List Tmp->List Value->Fr->Fr
 |t::ts,v::vs,σ=>Fw ts vs ((t,v)::σ)
 |_,_,σ=>σ
theorem JU:∀(d:List Tmp) (f:List Value) (a:Array Value) (σ:Fr) (k:Nat),a.size=k->d.all (λt=>Nat.blt t k)=true->(∀t v,lk σ t=some v->a[t]? = some v)->
  ((d.zip f).foldl (λa (x:Tmp×Value)=>a.setIfInBounds x.1 x.2) a).size=k∧∀t v,lk (Fw d f σ) t=some v->((d.zip f).foldl (λa (x:Tmp×Value)=>a.setIfInBounds x.1 x.2) a)[t]? = some v
 | [],_,a,σ,k,h1,_,h3=>by simpa [Fw]using ⟨h1,h3⟩
 |_::_,[],a,σ,k,h1,_,h3=>by simpa [Fw]using ⟨h1,h3⟩
 | p :: d, x :: f, a, σ, k, h1, h2, h3 => by
  simp only[List.all_cons,Bool.and_eq_true]at h2;have g:p<k:=by simpa [Nat.blt_eq]using h2.1
  simp only[List.zip_cons_cons,List.foldl_cons,Fw];refine JU d f _ _ k (by simp[h1]) h2.2 λt v b=> ?_;simp only[lk]at b;by_cases e:t=p
  ·subst e;simp at b;subst b;simp[h1,g]
  ·rw[mO e]at b;simp only[cond_false]at b;rw[Array.getElem?_setIfInBounds_ne (Ne.symm e)];exact h3 t v b
theorem Zo {f:Array Oper} {b:List Oper} {t:Tmp} {z:List Operand} {g:List Value} {o:Array TypeId} {d:Nat} {B:TypeId} {y:String} {k:Array Edge} {l i:Nat} {R:VN} {j:List Tmp} (U:lk σ t=some (xL l)) (W:z.map (ev σ)=g.map some) (T:M[i]? = some (Lp l R .ready none)) (r:R.ps=j.toArray) (q:g.length=j.length) (p:j.all (λt=>Nat.blt t R.n)=true) (S:Nat.blt d n.sz=true)
  (h:J c ⟨R.n,[]⟩ (Fw j g R.σ) M L (R.assign.wpr (some l) P (Exit.then (Vl P l (R.body.wpr (some l) P (roundPost P l (VP n σ d (wpList P f Q b))))) (λ_ _ _=>False)))):
  J c n σ M L (wpList P f Q (⟨some d,.call ⟨.value (.tmp t),z.toArray,o⟩,B,y,k,none⟩::b)):=λa w s A=>by
 obtain⟨F,h1,H,tmps,I,N,O⟩:=A.res T;have e:=evs s W;have C:a.eval (.tmp t)=xL l:=s.eval (x:= .tmp t) U;have X:=run_yield (P:=P) (args:=g.toArray) O (by simp[r,q]);have u:(execOp a.eval ⟨some d,.call ⟨.value (.tmp t),z.toArray,o⟩,B,y,k,none⟩).run P w=(Instr.yield l g.toArray).run P w:=by
  simp[execOp,resolve,C,xL,Deferred.ofValue,invoke,e]
 unfold wpList;rw[if_pos (show Region.wanted _ _=true from rfl)];refine .inr ⟨_,_,_,_,_,_,u.trans X,?_⟩;refine RoundIn.mono (R:=VP n σ d (wpList P f Q b)) (roundIn_of_wpIn (F:=FR none) trivial ?_) ?_
 ·obtain⟨D,E⟩:=JU j g tmps R.σ R.n I p N;have:=h {tmps:=(j.zip g).foldl (λtmps (x:Tmp×Value)=>tmps.setIfInBounds x.1 x.2) tmps,defers:=[]} w ⟨rfl,D,E⟩ A;simp only[r,List.zip_toArray,List.foldl_toArray];exact this
 ·rintro e Y ⟨v,rfl,V⟩;exact⟨v,rfl,V _ (s.put d v S)⟩
theorem Mm {g:Operand} {ps:Array Tmp} {assign body:Code} {f:FuncId} {fn:Func} {code:Code} {cs:List Value} {k:Nat} (hb:aW P f) (hx:ev σ g=some (.func (.func f) #[] cs.toArray)) (hf:P.funcs[f]? = some fn) (hbd:fn.body=some code) (hn:fn.ntmps=k) (hm:Nat.ble (cs.length+1) k=true)
  (h:∀(l D:Nat) (R:VN),R.n=n.sz∧R.σ=σ∧R.ps=ps∧R.assign=assign∧R.body=body->J c ⟨k,[]⟩ (wJ 0 (xL l::cs)) (Lp l R .ready none::Dfr D::M) L (code.wpr none P (gE P fn (VO P n σ l D Q)))):
  J c n σ M L ((Code.rangeFunc g ps assign body).wpr none P Q):=NP hb hx hf hbd hn hm λl D=>h l D _ ⟨rfl,rfl,rfl,rfl,rfl⟩
theorem NQ {j:Array Oper} {e:List Oper} {t:Tmp} {u:List Operand} {us:List Value} {r:Array TypeId} {d:Nat} {B:TypeId} {s:String} {q:Array Edge} {l i k:Nat} {R:VN} {p:List Tmp} {o:Fr} {a b:Code} (w:R.n=k∧R.σ=o∧R.ps=p.toArray∧R.assign=a∧R.body=b) (z:lk σ t=some (xL l)) (A:u.map (ev σ)=us.map some) (y:M[i]? = some (Lp l R .ready none)) (g:us.length=p.length) (f:p.all (λt=>Nat.blt t k)=true) (x:Nat.blt d n.sz=true)
  (h:J c ⟨k,[]⟩ (Fw p us o) M L (a.wpr (some l) P (Exit.then (Vl P l (b.wpr (some l) P (roundPost P l (VP n σ d (wpList P j Q e))))) (λ_ _ _=>False)))):
  J c n σ M L (wpList P j Q (⟨some d,.call ⟨.value (.tmp t),u.toArray,r⟩,B,s,q,none⟩::e)):=by
 obtain⟨rfl,rfl,v,rfl,rfl⟩:=w;exact Zo z A y v g f x h
end
def Ke (Ds:List Nat):List Deferred:=Ds.map XM
def Mi (Ds:List Nat):aZ where
 p w F:=Ds.Nodup∧∀D∈Ds,F D∧w.heap[D]? = some (.deferred (some []))
 mono:=fun⟨c,a⟩ h=>⟨c,λD b=>by
  obtain⟨d,e⟩:=h D (a D b).1 (Array.getElem?_eq_some_iff.1 (a D b).2).1;exact⟨d,by rw[e];exact(a D b).2⟩⟩
section
variable {P:Program} {rd:Option Nat} {c:tP} {n m:Sz} {σ σ':Fr} {M L:List aZ} {Q:Exit->Act->World->Prop} {K G:Act->World->Prop}
theorem Oh:nQ M L (Mi []::M) L:=nQ.add λ_=>⟨List.nodup_nil,by simp⟩
theorem Oi (i j:Nat) {D:Nat} {e:List Nat} (d:i≠j) (l:M[i]? = some (Mi e)) (o:M[j]? = some (Dfr D)):nQ M L ((M.set i (Mi (D::e))).eraseIdx j) L:=λc w t=>
 t.merge i j d l o (by
  rintro w q r ⟨g,b⟩ ⟨f,h⟩ k;refine⟨List.nodup_cons.2 ⟨λp=>k D (b D p).1 f,g⟩,λE a=> ?_⟩
  rcases List.mem_cons.1 a with rfl|a
  ·exact⟨.inr f,h⟩
  ·exact⟨.inl (b E a).1,(b E a).2⟩)
theorem FL {g:Operand} {ps:Array Tmp} {assign body:Code} {f:FuncId} {fn:Func} {code:Code} {cs:List Value} {k i s:Nat} (Ds:List Nat) (hi:M[i]? = some (Mi Ds)) (hb:aW P f) (hx:ev σ g=some (.func (.func f) #[] cs.toArray)) (hf:P.funcs[f]? = some fn) (hbd:fn.body=some code) (hn:fn.ntmps=k) (hm:Nat.ble (cs.length+1) k=true)
  (h:∀(l D:Nat) (R:VN),R.n=s∧R.σ=σ∧R.ps=ps∧R.assign=assign∧R.body=body->J c ⟨k,[]⟩ (wJ 0 (xL l::cs)) (Lp l R .ready none::M.set i (Mi (D::Ds))) L (code.wpr none P (gE P fn (VO P ⟨s,Ke Ds⟩ σ l D Q)))):
  J c ⟨s,Ke Ds⟩ σ M L ((Code.rangeFunc g ps assign body).wpr none P Q):=Mm hb hx hf hbd hn hm λl D R hR=>
 iS (Oi (i+2) 1 (by omega) hi Z) (h l D R hR)
theorem rP {o:Func} {R:Ending->World->Prop} {f:Exit} {i k:Nat} (b:f = .ret∨f = .normal):∀{Ds:List Nat} {M:List aZ},M[i]? = some (Mi Ds)->J c ⟨k,[]⟩ σ (M.set i (Mi [])) L (gE P o R f)->J c ⟨k,Ke Ds⟩ σ M L (gE P o R f)
 | [], M, hi, h => by
  have:M.set i (Mi [])=M:=by
   apply List.ext_getElem?;intro j;by_cases e:i=j
   ·subst e;rw[hi];simp[(List.getElem?_eq_some_iff.1 hi).1]
   ·simp[List.getElem?_set_ne e]
  rw[this]at h;exact h
 | D :: Ds, M, hi, h => λa w s t => by
  obtain⟨F,v,q⟩:=t.res hi;have u:St c (M.set i (Mi Ds)) L (w.putObj D (.deferred none)):=by
   refine t.upd hi Z Z Z (by simp) λF d _=>⟨λk _ r=> ?_,F,?_,λ_ h=> .inl h⟩
   ·exact World.putObj_heap_other (λe=>r (e▸(d.2 D (by simp)).1))
   ·obtain⟨p,d⟩:=d;refine⟨(List.nodup_cons.1 p).2,λE g=>⟨(d E (by simp[g])).1,?_⟩⟩
    rw[World.putObj_heap_other (λe=>(List.nodup_cons.1 p).1 (by subst e;exact g))];exact(d E (by simp[g])).2
  refine Ul b s.defers (q D (by simp)).2 ?_;have l:(M.set i (Mi Ds))[i]? = some (Mi Ds):=by simp[(List.getElem?_eq_some_iff.1 hi).1]
  have:=rP b l (by rw[List.set_set];exact h) {tmps:=a.tmps,defers:=Ke Ds} _ ⟨rfl,s.size,s.slot⟩ u;rcases b with rfl|rfl<;>exact this
def afy {A B:Type} (c:tP) (f:A->B->Sz) (C:A->Prop) (b:A->B->Fr) (e d:A->B->List aZ) (a:Act) (w:World):Prop:=∃x y,C x∧Fc (f x y) (b x y) a∧St c (e x y) (d x y) w
theorem QA {A B:Type} {x:Code} (h:A->B->Sz) (C:A->Prop) (d:A->B->Fr) (g f:A->B->List aZ) (j:J c n σ M L (x.wpr rd P (Exit.then (afy c h C d g f) Q))) (k:∀a b,C a->J c (h a b) (d a b) (g a b) (f a b) K):
  J c n σ M L (x.wpr rd P (Exit.then K Q)):=λa w s t=>GL (λe i u q=>by
 cases e with
 |normal=>obtain⟨z,y,o,p,r⟩:=q;exact k z y o i u p r
 |exit id=>exact q
 |goto l=>exact q
 |ret=>exact q
 |panic v=>exact q
 |outgrown=>exact q) (j a w s t)
theorem IB {A B:Type} {e:A->B->Sz} {C:A->Prop} {a:A->B->Fr} {d b:A->B->List aZ} (x:A) (y:B) (i:n=e x y) (f:C x) (j:y_ σ (a x y)) (h:a_ M (d x y)) (g:aF [] L (b x y)):J c n σ M L (afy c e C a d b):=
 λ_ _ s t=>⟨x,y,f,i▸s.weak j,t.weakE h g⟩
end
def Gb (b:Nat) (cs:List Value):aZ where
 p w S:=S b∧∃T,w.heap[b]? = some (.cells cs.toArray T (0,0))
 mono:=fun⟨c,T,a⟩ h=>by
  obtain⟨d,e⟩:=h b c (Array.getElem?_eq_some_iff.1 a).1;exact⟨d,T,by rw[e];exact a⟩
section
variable {P:Program} {c:tP} {n:Sz} {σ:Fr} {M L:List aZ} {d:Option Tmp} {ty:TypeId} {pos:String} {aft:Array Edge} {g:Option (Nat×Bool)} {α:Type} {e:cY α}
theorem Oo [cL P] {T E:TypeId} {u:IntKind} {k v A f B:Nat} {z C:Value} {l:TypeDesc} {x y:Operand} {b:Nat} {i:Int} (q:ev σ x=some (.pointer (some ⟨b,0,none⟩))) (r:ev σ y=some (.int u i))
  (p:cL.tab P T=some ⟨.array k E,v,A,z⟩) (o:cL.tab P E=some ⟨l,f,B,C⟩) (m:(f==0)=false) (h:0<=i∧i<(k:Int)):
  Y P c n σ M L ⟨d,.indexAddr T x y,ty,pos,aft,g⟩ (.pointer (some ⟨b,i.toNat*f,none⟩)):=λa w s t=>by
 have j:f≠0:=by simpa using m
 simp[execOp,s.eval q,s.eval r,Instr.indexAt,asIntOf,(cL.ok p).run_und w,h,Instr.sureAddr,(cL.ok o).run_size w,j,dW]
theorem Uf [cL P] [Inhabited α] {T:TypeId} {E:Nat} {z:Value} {o:TypeDesc} {x:Operand} {b k:Nat} {i:Int} {f:List α} {u:Value} (q:ev σ x=some (.pointer (some ⟨b,i.toNat*1,none⟩)))
  (y:aE M L (Gb b (cellsOf e f))) (A:cL.tab P T=some ⟨o,1,E,z⟩) (B:xZ o=false) (C:e.sz=1) (D:(e.enc (at' f i))=[u]) (h:(0<=i∧i<(k:Int))∧f.length=k):
  Y P c n σ M L ⟨d,.load T x,ty,pos,aft,g⟩ u:=λa w s t=>by
 obtain⟨F,j,r,l⟩:=y.st t;have v:(bU b (cellsOf e f) r).p w F:=⟨j,l⟩
 have m:=vJ e f i.toNat (at' f i) (gR h.1.1 (by omega)) 0 u (by rw[D];rfl);rw[C,Nat.add_zero]at m;rw[Nat.mul_one]at q m;simp[execOp,s.eval q,yI (cL.ok A) B (bU.cell v m)]
end
def sl3 (v:Value) (l h m b:Nat):Value:=match v with
 | .slice a _ _=> .slice (if m=l then a else a.map (·.add (l*b))) (h - l) (m - l)
 |v=>v
section
variable {P:Program} {rd:Option Nat} {c:tP} {n:Sz} {σ:Fr} {M L:List aZ} {Q:Exit->Act->World->Prop} {ops:Array Oper} {rest:List Oper} {d:Option Tmp} {ty:TypeId} {pos:String} {aft:Array Edge} {g:Option (Nat×Bool)} {α:Type} {e:cY α} {r:eI α} {G:Act->World->Prop}
theorem Ug [cL P] {T E:TypeId} {J K u N:Nat} {z O:Value} {B:TypeDesc} {x p o q:Operand} {v:Value} {i k m:Int} {y:List α} (I:ev σ x=some v) (f:ev σ p=some (.int .i64 i)) (b:ev σ o=some (.int .i64 k)) (j:ev σ q=some (.int .i64 m)) (l:aE M L (Sl r v y))
  (F:cL.tab P T=some ⟨.slice E,J,K,z⟩) (D:cL.tab P E=some ⟨B,u,N,O⟩) (h:0<=i∧i<=k∧k<=m∧m<=y.length):Y P c n σ M L ⟨d,.slice T x (some p) (some o) (some q),ty,pos,aft,g⟩ (sl3 v i.toNat k.toNat m.toNat u):=λa w s t=>by
 have C:=VW (P:=P) (c:=c) (n:=n) (d:=d) (ty:=ty) (pos:=pos) (aft:=aft) (g:=g) I f b j l F D h a w s t;obtain⟨S,R,A,H,_⟩:=l.st t;subst H;exact C
theorem Uc {w:World} {S:Nat->Prop} {v:Value} {i:List α} (p:GM r w S v i) {l h m:Nat} (x:l<=h) (u:h<=m) (z:m<=i.length):GM r w S (sl3 v l h m r.sz) ((i.take h).drop l):=by
 have A:=GM.part p x (Nat.le_trans u z);obtain⟨a,s,rfl,C,_⟩:=p;obtain⟨B,k,j,t,b⟩:=A;have f:((i.take h).drop l).length=h - l:=by simp;omega
 refine⟨if m=l then a else a.map (·.add (l*r.sz)),m - l,by simp[sl3,f],by omega,?_⟩
 rcases b with b|b
 ·exact .inl b
 ·by_cases o:(i.take h).drop l=[]
  ·exact .inl o
  ·right;have y:l<h:=by
    rcases Nat.lt_or_ge l h with q|q
    ·exact q
    ·exact absurd (List.eq_nil_of_length_eq_zero (by omega)) o
   simp only[slq,Value.slice.injEq]at j;rw[if_neg (by omega)]at j;rw[if_neg (by omega),j.1];exact b
theorem Ji {v:Value} {a:List α} (b:aE M L (Sl r v a)) {l h m:Int} {q:Nat} (f:r.sz=q) (j:0<=l∧l<=h∧h<=m∧m<=a.length):aE M L (Sl r (sl3 v l.toNat h.toNat m.toNat q) ((a.take h.toNat).drop l.toNat)):=by
 subst f;exact b.mono λi=>Uc i (by omega) (by omega) (by omega)
def Rlf (r:eI α) (vs:List Value) (b:List (List α)):aZ where
 p w S:=vs.length=b.length∧∀(i:Nat) v a,vs[i]? = some v->b[i]? = some a->GM r w S v a
 mono:=fun⟨f,j⟩ h=>⟨f,λi v a k l=>(Sl r v a).mono (j i v a k l) h⟩
theorem Zi (r:eI α) (m:Nat) (h:J c n σ M (Rlf r (List.replicate m (.slice none 0 0)) (List.replicate m ([]:List α))::L) G):J c n σ M L G:=λa w s t=>h a w s (by
 obtain⟨k,F,b,j⟩:=t;refine⟨k,F,b,λf hf=> ?_⟩
 rcases List.mem_cons.1 hf with rfl|hf
 ·refine⟨by simp,λi v p l o=> ?_⟩
  obtain⟨_,rfl⟩:=List.mem_replicate.1 (List.mem_of_getElem? l);obtain⟨_,rfl⟩:=List.mem_replicate.1 (List.mem_of_getElem? o);exact⟨none,0,rfl,by simp,.inl Z⟩
 ·exact j f hf)
theorem Zm (j:Nat) {vs:List Value} {o:List (List α)} {t:Value} {u:List α} {k:Nat} (C:L[j]? = some (Rlf r vs o)) (D:aE [] L (Sl r t u)) (h:J c n σ M (L.set j (Rlf r (vs.set k t) (o.set k u))) G):J c n σ M L G:=λa w s I=>h a w s (by
 obtain⟨H,F,B,p⟩:=I;refine⟨H,F,B,λf q=> ?_⟩
 rcases List.mem_or_eq_of_mem_set q with q|rfl
 ·exact p f q
 ·obtain⟨x,y⟩:=p _ (List.mem_of_getElem? C);refine⟨by simp[x],λi v K b l=> ?_⟩
  by_cases e:k=i
  ·subst e;have z:=bA b;have A:=bA l;rw[List.getElem?_set_self (by simpa using z)]at b;rw[List.getElem?_set_self (by simpa using A)]at l;cases b;cases l;exact D w (Da c F) (λ_ _=>False) (Da c F) p (λi m E=>by simp at E) (λ_ h=>h) (λ_ _ h=>h.elim)
  ·rw[List.getElem?_set_ne e]at b l;exact y i v K b l)
theorem TV [cL P] (j q:Nat) {T:TypeId} {E:Nat} {z:Value} {l:TypeDesc} {x y:Operand} {v u:Value} {i:Int} {vs:List Value} {b:List (List α)} (h:0<=i∧i<b.length) (C:ev σ x=some (Dz v (i.toNat*1))) (D:ev σ y=some u)
  (p:M[j]? = some (Ar cY.raw v vs)) (B:L[q]? = some (Rlf r vs b)) (f:one u=true) (o:cL.tab P T=some ⟨l,1,E,z⟩)
  (A:J c n σ (M.set j (Ar cY.raw v (vs.set i.toNat u))) L (wpList P ops Q rest)):
  J c n σ M L (wpList P ops Q (⟨none,.store T x y,ty,pos,aft,none⟩::rest)):=λa w s t=>by
 have k:vs.length=b.length:=by obtain⟨_,F,_,m⟩:=t;exact(m _ (List.mem_of_getElem? B)).1
 exact Je j u C D Z f p o Z h.1 (by omega) A a w s t
theorem Jj {i j:Nat} {v:Value} {vs:List Value} {a:List (List α)} (K:M[i]? = some (Ar cY.raw v vs)) (N:L[j]? = some (Rlf r vs a)):aE M L (S2 r v (vs.zip a) a):=λw S T U D E H I=>by
 have C:=E i _ K;obtain⟨h,F⟩:=D _ (List.mem_of_getElem? N);refine⟨?_,by rw[List.map_snd_zip];omega⟩
 have A:(vs.zip a).length=vs.length:=by simp[h]
 have f:C_ cY.raw w (T i) v vs:=C;have o:=f;obtain⟨Y,_,J⟩:=f;rcases J with⟨rfl,rfl⟩|⟨b,t,m,V,B,rfl,p,W,y,X,ht⟩
 ·exact⟨none,0,rfl,by simp,.inl Z⟩
 ·refine⟨_,m,by rw[A],by rw[A];omega,.inr ⟨b,t,rfl,I i _ p,λq x l=> ?_⟩⟩
  have z:vs[q]? = some x.1:=by rw[List.getElem?_zip_eq_some]at l;exact l.1
  have s:a[q]? = some x.2:=by rw[List.getElem?_zip_eq_some]at l;exact l.2
  refine⟨[x.1],λR u O=> ?_,rfl,?_⟩
  ·have:=C_.cell o z (j:=R) (u:=u) O;simp only[JK,dW]at this;exact this
  ·exact(Sl r x.1 x.2).mono (F q _ _ z s) (λk y _=>⟨H k y,rfl⟩)
end
end Go.Sx
namespace Go.Sx
section
variable {P:Program} {M L:List aZ} {α β γ:Type} {r:eI α} {s:eI γ} {q:eI β}
def eI.Deep (r:eI α) (q:eI β) (f:α->Value×List β):Prop:=∀{w S es x},r.R w S es x->GM q w S (f x).1 (f x).2
theorem Dl (q:eI β):(eI.sl q).Deep q (λx=>x):=λh=>h.2
theorem Ua {f:α->Value×List β} (h:r.Deep q f):(r.pair s).Deep q (λx=>f x.1):=by
 rintro w S d x ⟨b,c,rfl,a,_⟩;exact h a
theorem Eh {f:α->Value×List β} (h:r.Deep q f):(s.pair r).Deep q (λx=>f x.2):=by
 rintro w S d x ⟨b,c,rfl,_,a⟩;exact h a
theorem vG [Inhabited α] {v:Value} {a:List α} {i:Int} {f:α->Value×List β} (h:aE M L (Sl r v a)) (d:r.Deep q f) (b:0<=i) (c:i<a.length):aE M L (Sl q (f (at' a i)).1 (f (at' a i)).2):=h.mono λ{w U} hs=>by
 obtain⟨g,e,_⟩:=sl_cell hs (gR b c);exact d e
def Jz (s:ByteArray):List Int:=s.data.toList.map λb=>(b.toNat:Int)
theorem Cf [cL P] {c:tP} {n:Sz} {l:Fr} {d:Option Tmp} {H:TypeId} {e:String} {b:Array Edge} {g:Option (Nat×Bool)} {T:TypeId} {F G:Nat} {z:Value} {x y:Operand} {s:ByteArray} {f:List Int} {k:IntKind} {i:Int} (D:ev l x=some (.string s)) (E:ev l y=some (.int k i)) (u:cL.tab P T=some ⟨.string,F,G,z⟩) (A:Jz s=f) (h:0<=i∧i<f.length):
  Y P c n l M L ⟨d,.index T x y,H,e,b,g⟩ (.int .u8 (at' f i)):=λa w p t=>by
 subst A;obtain⟨I,m⟩:=h;obtain⟨j,rfl⟩:∃j:Nat,i=(j:Int):=⟨i.toNat,by omega⟩
 have o:j<s.data.toList.length:=by unfold Jz at m;simp at m ⊢;omega
 have C:j<s.size:=by have:=Lib.size_eq s;simp at o;omega
 have B:s[j]? = some (s.data.toList[j]):=by
  rw[getElem?_pos s j C];rfl
 have v:at' (Jz s) (j:Int)=((s.data.toList[j]).toNat:Int):=by
  unfold at' Jz;simp[List.getD_eq_getElem?_getD,List.getElem?_eq_getElem o]
 rw[v];simp[execOp,p.eval D,p.eval E,Instr.index,asIntOf,(cL.ok u).run_und w,B]
theorem QM [cL P] {c:tP} {n:Sz} {j:Fr} {d:Option Tmp} {F:TypeId} {i:String} {e:Array Edge} {g:Option (Nat×Bool)} {T E:TypeId} {A B C D m b:Nat} {z G:Value} {o:TypeDesc} {x l:Operand} {k:Int} (y:ev j x=some (.pointer (some ⟨b,0,none⟩))) (f:ev j l=some (.int .i64 k))
  (v:cL.tab P T=some ⟨.array m E,A,B,z⟩) (u:cL.tab P E=some ⟨o,C,D,G⟩) {q:Int} (h:0<=k∧k<=((m:Nat):Int)∧k<=q):Y P c n j M L ⟨d,.slice T x none (some l) none,F,i,e,g⟩ (.slice (some ⟨b,0,none⟩) k.toNat m):=λa w s t=>by
 have p:0<=k∧k<=(m:Int):=⟨h.1,h.2.1⟩
 simp[execOp,s.eval y,s.eval f,Instr.sliceAt,Instr.slice,(cL.ok v).run_und w,Instr.sliceBounds,Instr.sliceBound,asIntOf,(cL.ok u).run_size w,p,asAddr,Addr.add,Instr.sureAddr]
theorem VC {e:cY α} {i b T m:Nat} {k:Int} {a:List α} (t:M[i]? = some (bU b (cellsOf e a) T)) (c:e.Fits r) (h:0<=k∧k<=((m:Nat):Int)∧k<=(a.length:Int)) (p:m<=9223372036854775807):aE M L (Sl r (.slice (some ⟨b,0,none⟩) k.toNat m) (a.take k.toNat)):=λw S T U B f C v=>by
 have n:=f i _ t;have o:(a.take k.toNat).length=k.toNat:=by simp;omega
 refine⟨some ⟨b,0,none⟩,m,by rw[o],by rw[o];omega,.inr ⟨b,0,rfl,v _ _ n.1,λj x d=> ?_⟩⟩
 have l:a[j]? = some x:=by
  rw[List.getElem?_take]at d;split at d
  ·exact d
  ·cases d
 obtain⟨g,D,z,_⟩:=c;refine⟨e.enc x,λq u A=> ?_,z⟩
 have y:=vJ e a _ _ l _ _ A;rw[g,Nat.zero_add];exact bU.cell n y
def eI.All (r:eI α) (n:Nat) (g:α->List Value):Prop:=r.sz=n∧∀{w S es x},r.R w S es x->es=g x
theorem QG {e:cY α} (h:e.Fits r):r.All e.sz e.enc:=⟨h.1,h.2.1⟩
theorem QI (q:eI β):(eI.sl q).All 1 (λx=>[x.1]):=⟨rfl,λh=>h.1⟩
theorem Mq {n m:Nat} {f:α->List Value} {g:γ->List Value} (h:r.All n f) (k:s.All m g):(r.pair s).All (n+m) (λx=>f x.1++g x.2):=⟨by show r.sz+s.sz=_;rw[h.1,k.1],by
 rintro w S e x ⟨c,d,rfl,a,b⟩;rw[h.2 a,k.2 b]⟩
theorem QK [cL P] [Inhabited α] {c:tP} {n:Sz} {B:Fr} {d:Option Tmp} {O:TypeId} {o:String} {k:Array Edge} {g:Option (Nat×Bool)} {T:TypeId} {N q m:Nat} {z:Value} {p:TypeDesc} {x:Operand} {v:Value} {i:Int} {e:List α} {cs:List Value} {f:α->List Value} (K:ev B x=some (Dz v (i.toNat*q))) (G:aE M L (Sl r v e)) (y:r.All m f) (l:f (at' e i)=cs)
  (E:cL.tab P T=some ⟨p,cs.length,N,z⟩) (F:xZ p=true) (H:m=q) (h:0<=i∧i<e.length):Y P c n B M L ⟨d,.load T x,O,o,k,g⟩ (.agg cs.toArray):=λa w s t=>by
 obtain⟨C,D⟩:=h;obtain⟨S,h⟩:=G.st t;obtain⟨Q,I,b⟩:=sl_cell h (gR C D);have:=y.2 I;subst this l;rw[y.1,H]at b;have:=Bu (w:=w) (A:=JK v (i.toNat*q)) (cs:=f (at' e i)) (cL.ok E) F Z (λj u J=>by rw[IJ];exact b j u J);simp[execOp,s.eval K,Dz,this]
end
end Go.Sx
namespace Go.Sx
open Go.RowKit
section
variable {P:Program} {c:tP} {n:Sz} {σ:Fr} {M L:List aZ} {d:Option Tmp} {ty:TypeId} {pos:String} {aft:Array Edge} {g:Option (Nat×Bool)}
def afC (v:Value) (m:Nat):Prop:=∃a e,v = .slice a m e∧(m=0∨∃b f,a=some ⟨b,f,none⟩)
theorem Know.len {f:Type} {r:eI f} {v:Value} {xs:List f} (j:aE M L (Sl r v xs)):∀c w,St c M L w->afC v xs.length:=λc w t=>by
 obtain⟨S,i,cap,k,_,h⟩:=j.st t;exact⟨i,cap,k,h.imp (λh=>by simp[h]) fun⟨b,a,e,_⟩=>⟨b,a,e⟩⟩
theorem Oq [cL P] {T E:TypeId} {B C k D m:Nat} {z F:Value} {o:TypeDesc} {x y:Operand} {v:Value} {i:Int} (u:ev σ x=some v) (A:ev σ y=some (.int .i64 i)) (f:afC v m)
  (s:cL.tab P T=some ⟨.slice E,B,C,z⟩) (r:cL.tab P E=some ⟨o,k,D,F⟩) (h:0<=i∧i<(m:Int)):Y P c n σ M L ⟨d,.indexAddr T x y,ty,pos,aft,g⟩ (Dz v (i.toNat*k)):=λa w l t=>by
 obtain⟨G,e,rfl,f⟩:=f;obtain⟨p,q⟩:=h;rcases f with rfl|⟨b,j,rfl⟩
 ·omega
 ·simp[execOp,l.eval u,l.eval A,HE w (cL.ok s) Z (cL.ok r) b j _ e i p q]
theorem Jk [cL P] (i:Nat) {T j:TypeId} {H m o b:Nat} {z:Value} {q:TypeDesc} {x y:Operand} {cs e us:List Value} {u:Value} (E:ev σ x=some (.pointer (some ⟨b,o,none⟩))) (G:ev σ y=some u) (l:u.cells=us.toArray) (B:us.length=m)
  (r:us.all one=true) (p:M[i]? = some (bU b cs j)) (A:cL.tab P T=some ⟨q,m,H,z⟩) (C:Nat.ble (o+m) cs.length=true) (k:cs.take o++us++cs.drop (o+m)=e):
  aM P c n σ M L ⟨none,.store T x y,ty,pos,aft,none⟩ (λ_:Unit=>undef) (λ_=>M.set i (bU b e j)) (λ_=>L):=λa w s t=>by
 subst B k;obtain⟨F,v⟩:=t.res p;have D:o+us.length<=cs.length:=by simpa using C
 have h:=run_storeCells_at P b o j us 0 cs.toArray w v.2 (by simp;omega) (λu l=>pZ (List.all_eq_true.1 r u l));simp only[Nat.add_zero]at h;have f:(execOp a.eval ⟨none,.store T x y,ty,pos,aft,none⟩).run P w = .ok .skip (w.setRow b (cs.take o++us++cs.drop (o+us.length)).toArray):=by
  simp[execOp,s.eval E,s.eval G,Instr.storeAt,Instr.sureAddr,storeVar,l,(cL.ok A).run_size w,h]
 simp only[Oper.wp,f,Oper.upon];exact⟨(),trivial,t.fill p⟩
theorem Ku {a:Type} [Inhabited a] (l:List a) (k:Int) (h:k.toNat<l.length) (b:0<=k):l.set k.toNat (at' l k)=l:=by
 have:=gR (xs:=l) b (by omega);refine List.ext_getElem? λi=> ?_;by_cases e:k.toNat=i
 ·subst e;rw[List.getElem?_set_self h,this]
 ·rw[List.getElem?_set_ne e]
theorem wB [cL P] {l:Type} [Inhabited l] {e:cY l} (j:Nat) {T:TypeId} {Q m o q:Nat} {z:Value} {C:TypeDesc} {x y:Operand} {u:Value} {us:List Value} {i k:Int} {vs:List Value} {b:List (List l)} (f:l) (A:0<=k∧k<b.length) (h:0<=i∧i<(at' b k).length) (N:ev σ x=some (Dz (at' vs k) (i.toNat*q+o))) (O:ev σ y=some u)
  (v:M[j]? = some (kX e vs b)) (I:e.sz=q) (K:u.cells=us.toArray) (G:us.length=m) (H:Nat.ble (o+m) q=true) (B:e.enc f=(e.enc (at' (at' b k) i)).take o++us++(e.enc (at' (at' b k) i)).drop (o+m)) (p:us.all one=true) (D:cL.tab P T=some ⟨C,m,Q,z⟩):
  aM P c n σ M L ⟨none,.store T x y,ty,pos,aft,none⟩ (λ_:Unit=>undef) (λ_=>M.set j (kX e vs (b.set k.toNat ((at' b k).set i.toNat f)))) (λ_=>L):=λa w s t=>by
 have U:=c_ j v c w t;have F:j<M.length:=(List.getElem?_eq_some_iff.1 v).1;refine nD (λS R ⟨x,E,J⟩=>⟨x,E,?_⟩) (NV 0 f h N O Z I K G H B p D a w s (Oj j v A c w t));have r:=Of (j+1) 0 (u:=at' vs k) (k:=k) (vs:=vs) (xss:=b) (ys:=(at' b k).set i.toNat f) (e:=e) Z (by simp[F]) Z (by simpa using A) c R J;simp only[List.set_cons_zero,List.set_cons_succ,List.eraseIdx_cons_zero,List.set_set]at r;rw[Ku vs k (by omega) A.1]at r;exact r
end
theorem a_.ix {M a:List aZ} (l:List Nat) (c:decide l.Nodup=true) (h:l.map (λi=>M[i]?)=a.map some):a_ M a:=by
 have c:l.Nodup:=of_decide_eq_true c;have k:l.length=a.length:=by simpa using congrArg List.length h
 refine⟨λi=>l.getD i 0,λi j b n e=> ?_,λi m d=> ?_⟩
 ·have f:i<l.length:=by omega
  have g:j<l.length:=by omega
  simp only[List.getD_eq_getElem?_getD,List.getElem?_eq_getElem f,List.getElem?_eq_getElem g,Option.getD_some]at e;exact(List.getElem_inj c).1 e
 ·have b:i<l.length:=by rw[k];exact(List.getElem?_eq_some_iff.1 d).1
  have:=congrArg (λq=>q[i]?) h;simp only[List.getElem?_map,List.getElem?_eq_getElem b,d,Option.map_some,Option.some.injEq]at this;simpa [List.getD_eq_getElem?_getD,List.getElem?_eq_getElem b]using this
def cY.fn:cY Nat:=⟨1,Nat.one_pos,λf=>[.func (.func f) #[] #[]],λ_=>rfl⟩
def eI.fn:eI Nat:=⟨1,Nat.one_pos,λ_ _ cs x=>cs=[.func (.func x) #[] #[]],λh=>by simp[h],λh _=>h⟩
theorem NN:cY.fn.Fits eI.fn:=⟨rfl,λh=>h,rfl,λ_=>rfl⟩
section
variable {P:Program} {rd:Option Nat} {c:tP} {n:Sz} {σ:Fr} {M L:List aZ} {Q:Exit->Act->World->Prop} {ops:Array Oper} {rest:List Oper} {d:Nat} {ty:TypeId} {pos:String} {aft:Array Edge} {x y:Operand} {v:Value} {K:Act->World->Prop}
abbrev vS (x:ByteArray):Value:= .string x
abbrev vB (x:Bool):Value:= .bool x
theorem cX {a:Type} {p G:Prop} {_:Decidable p} {u:Option a} {r:a} (h:ck p u=some r) (k:p->u=some r->G):G:=k (SJ h).1 (SJ h).2
theorem fH {a b:Type} {G:Prop} {u:Option a} {f:a->Option b} {r:b} (h:u.bind f=some r) (k:∀y,u=some y->f y=some r->G):G:=by
  obtain⟨y,e,g⟩:=bnd h;exact k y e g
theorem pO (l:List Nat) {a:List aZ} (h:l.map (L[·]?)=a.map some):aF M L a:=λf b=>by
  have g:some f∈l.map (L[·]?):=h▸List.mem_map_of_mem b;obtain⟨j,_,e⟩:=List.mem_map.1 g;exact aE.fact j e
theorem Ag.ix (l:List Nat) {a:List aZ} (h:l.map (L[·]?)=a.map some):Ag L a:=λf b=>by
  have g:some f∈l.map (L[·]?):=h▸List.mem_map_of_mem b;obtain⟨j,_,e⟩:=List.mem_map.1 g;exact List.mem_of_getElem? e
theorem lR {f:aZ} (i:Nat) (h:L[i]? = some f):Ag L [f]:=Ag.cons (List.mem_of_getElem? h) Ag.nil
/-- which of the early loads must still hold,with the numbers of what they have read -/
def bsW (A:Nat->Bool):List (List Nat×List Nat)->List (Nat×List aZ×List aZ)->List (List Nat×List Nat×List aZ×List aZ)
  |_,[]=>[]
  |q,(j,Mx,Lx)::B=>bif A j||(Mx.isEmpty&&Lx.isEmpty)then bsW A q B else((q.headD ([],[])).1,(q.headD ([],[])).2,Mx,Lx)::bsW A q.tail B
theorem v_ {A:Nat->Bool} (q:List (List Nat×List Nat)) {B:List (Nat×List aZ×List aZ)} (h:(bsW A q B).map (λz=>(decide z.1.Nodup,z.1.map (M[·]?),z.2.1.map (L[·]?)))=(bsW A q B).map (λz=>(true,z.2.2.1.map some,z.2.2.2.map some))):Ac A M L B:=by
  induction B generalizing q with
  |nil=>exact Ac.z
  | cons b B ih =>
    obtain⟨j,k,i⟩:=b;cases a:A j with
    |true=>exact Ac.b a (ih q (by simpa [bsW,a]using h))
    | false =>
      cases g:(k.isEmpty&&i.isEmpty)with
      | true =>
        obtain⟨e,f⟩:=Bool.and_eq_true_iff.1 g;rw[List.isEmpty_iff]at e f;subst e;subst f;exact Ac.h a_.nil Ag.nil (ih q (by simpa [bsW,a]using h))
      | false =>
        simp only[bsW,a,g,Bool.or_self,cond_false,List.map_cons,List.cons.injEq,Prod.mk.injEq]at h;exact Ac.h (a_.ix _ h.1.1 h.1.2.1) (Ag.ix _ h.1.2.2) (ih q.tail h.2)
def hkB (A:Nat->Bool):List (Nat×List aZ×List aZ)->Bool
  | []=>true
  |(j,_,_)::H=>bif A j then hkB A H else false
theorem hkI {A:Nat->Bool} {f e:List aZ} {H:List (Nat×List aZ×List aZ)} (h:hkB A H=true):aP A f e H:=by
  induction H with
  |nil=>exact aP.z
  | cons b B ih =>
    obtain⟨j,_,_⟩:=b;cases a:A j with
    |false=>simp[hkB,a]at h
    |true=>exact aP.b a (ih (by simpa [hkB,a]using h))
theorem hkN {A:Nat->Bool} {H:List (Nat×List aZ×List aZ)}:aP A [] [] H:=by
  induction H with
  |nil=>exact aP.z
  |cons b B a=>exact aP.h a_.nil Ag.nil a
theorem dV {T:Operand} (h:(ev σ T,ev σ x,Nat.blt d n.sz)=(some (.bool true),some v,true)) (k:J c n ((d,v)::σ) M L (wpList P ops Q rest)):J c n σ M L (wpList P ops Q (⟨some d,.pick T x y,ty,pos,aft,none⟩::rest)):=by
  simp only[Prod.mk.injEq]at h;exact aB (Sq h.1 h.2.1) h.2.2 k
theorem fK {T:Operand} (h:(ev σ T,ev σ y,Nat.blt d n.sz)=(some (.bool false),some v,true)) (k:J c n ((d,v)::σ) M L (wpList P ops Q rest)):J c n σ M L (wpList P ops Q (⟨some d,.pick T x y,ty,pos,aft,none⟩::rest)):=by
  simp only[Prod.mk.injEq]at h;exact aB (Sp h.1 h.2.1) h.2.2 k
theorem iW {vs:List Value} {i:Nat} (h:(ev σ x,vs[i]?,Nat.blt d n.sz)=(some (.tuple vs.toArray),some v,true)) (k:J c n ((d,v)::σ) M L (wpList P ops Q rest)):J c n σ M L (wpList P ops Q (⟨some d,.extract x i,ty,pos,aft,none⟩::rest)):=by
  simp only[Prod.mk.injEq]at h;exact aB (lS h.1 h.2.1) h.2.2 k
theorem p_ {t a:TypeId} {i:IntKind} {p q:Int} (h:(ev σ x,ev σ y,Nat.blt d n.sz)=(some (.int i p),some (.int i q),true)) (k:J c n ((d,.bool (decide (p≠q)))::σ) M L (wpList P ops Q rest)):J c n σ M L (wpList P ops Q (⟨some d,.binOp .neq t x y a,ty,pos,aft,none⟩::rest)):=by
  simp only[Prod.mk.injEq]at h;exact aB (Dq h.1 h.2.1) h.2.2 k
theorem Aa {t a:TypeId} {i:IntKind} {p q:Int} (h:(ev σ x,ev σ y,Nat.blt d n.sz)=(some (.int i p),some (.int i q),true)) (k:J c n ((d,.int i (dD i p q))::σ) M L (wpList P ops Q rest)):J c n σ M L (wpList P ops Q (⟨some d,.binOp .and t x y a,ty,pos,aft,none⟩::rest)):=by
  simp only[Prod.mk.injEq]at h;exact aB (Lg h.1 h.2.1) h.2.2 k
theorem kB [cL P] {b:Type} {r:eI b} {T E:TypeId} {f g:Nat} {z:Value} {a:List b} (e:aE M L (Sl r v a)) (h:(ev σ x,cL.tab P T,Nat.blt d n.sz)=(some v,some ⟨.slice E,f,g,z⟩,true)) (k:J c n ((d,.int .i64 a.length)::σ) M L (wpList P ops Q rest)):J c n σ M L (wpList P ops Q (⟨some d,.call ⟨.builtin .len,#[x],#[T]⟩,ty,pos,aft,none⟩::rest)):=by
  simp only[Prod.mk.injEq]at h;exact aB (fW h.1 e h.2.1) h.2.2 k
variable {l:List Oper} {m:List Nat} {k0:Nat} {H Bs:List (Nat×List aZ×List aZ)} {rs:List Nat}
theorem iF {i a:Nat} {b:Op} (f:l[i]? = some ⟨some a,b,ty,pos,aft,none⟩) (k:Y P c n σ [] [] ⟨some a,b,ty,pos,aft,none⟩ v)
    (h:JR c n ((a,v)::σ) M L H ((i,[],[])::Bs) (RW P l.toArray Q (before m) (cR l) k0 rs))
    (g:Nat.blt i k0=true:=by exact rfl) (j:dY b=false:=by exact rfl) (e:Nat.blt a n.sz=true:=by exact rfl):JR c n σ M L H Bs (RW P l.toArray Q (before m) (cR l) k0 (i::rs)):=bL f a_.nil Ag.nil k hkN h g j e
end
end Go.Sx
namespace Go.Sx
abbrev aR:=List Int
abbrev fM:=List (Int×Int)
abbrev bG:=List aR
abbrev gN:=List fM
abbrev HK:=(ByteArray×(List (ByteArray×Int×Int×Int×Int×Int))×(List (ByteArray×(Value×fM)×(Value×List (Int×(Value×fM))))))×((ByteArray×(List (ByteArray×Int×Int×Int×Int×Int))×(List (ByteArray×(Value×fM)×(Value×List (Int×(Value×fM))))))×(aR×gN)×Int×bG)×gN
abbrev BJ:=ByteArray×(List (ByteArray×Int×Int×Int×Int×Int))×(List (ByteArray×(Value×fM)×(Value×List (Int×(Value×fM)))))
abbrev NE:=((ByteArray×(List (ByteArray×Int×Int×Int×Int×Int))×(List (ByteArray×(Value×fM)×(Value×List (Int×(Value×fM))))))×(aR×gN)×Int×bG)×bG×Int×fM
abbrev Be:=(List bG×(List (Int×Int×Int×Int×Int))×Int)
abbrev cQ:=aR×gN
abbrev lX:=List (Value×fM)
abbrev Vb:=(ByteArray×(List (ByteArray×Int×Int×Int×Int×Int))×(List (ByteArray×(Value×fM)×(Value×List (Int×(Value×fM))))))×(aR×gN)×Int×bG
abbrev sH:=List (Value×aR)
abbrev abr:=(((ByteArray×(List (ByteArray×Int×Int×Int×Int×Int))×(List (ByteArray×(Value×fM)×(Value×List (Int×(Value×fM))))))×(aR×gN)×Int×bG)×bG×Int×fM)
abbrev Di:=Int×aR×aR×aR×Bool×Bool
abbrev fV:=List Value
abbrev Ec:=ByteArray×Int×Int×Int×Int×Int
abbrev iH:=(Int×Int)
abbrev eZ:=Int×Int
abbrev Ig:=List (ByteArray×Int×Int×Int×Int×Int)
abbrev tA:=((aR×gN))
abbrev YD:=(Int×aR×Int×Int×Int×Int×Int×Int×bG×aR×(List (Int×Int×Int×Int×Int))×List bG)
abbrev YE:=Int×aR×Int×Int×Int×Int×Int×Int×bG×aR×(List (Int×Int×Int×Int×Int))×List bG
abbrev Ih:=Int×(List ((Int×Int)×Int))
abbrev nS:=Int×aR
abbrev YF:=(ByteArray×List (ByteArray×Int×Int×Int×Int×Int)×List (fM×List (Int×fM)))
abbrev KG:=List (fM×List (Int×fM))
abbrev xK:=(Int×aR)
abbrev LW:=(Int×(List ((Int×Int)×Int)))
abbrev Ii:=Int×Int×Int×Int×Int
abbrev TG:=List bG×(List (Int×Int×Int×Int×Int))×Bool
abbrev LX:=List (Int×Int×Int×Int×Int)
abbrev PX:=(ByteArray×Int×Int×Int×Int×Int)
abbrev pX:=List Nat
abbrev LY:=Int×aR×gN×Int×bG
abbrev zI:=List bG
abbrev abT:=Int×Int×Int×Int×Int×Int×aR×aR×bG×(List (Int×Int×Int×Int×Int))×List bG
abbrev abU:=(List (Int×Int×Int×Int×Int))×List bG×aR×aR×bG×Int×Int×Int×Int×Int×Int
abbrev KH:=Value×List Value
abbrev YG:=((List (ByteArray×Int×Int×Int×Int×Int)))
abbrev EW:=(aR×gN)
abbrev YH:=(List (ByteArray×Int×Int×Int×Int×Int))
abbrev k_:Value:=Value.slice none 0 0
abbrev Qa:List Value:=[k_,k_,k_,vI (0:Int),vI (0:Int),vI (0:Int),vI (0:Int),vU (0:Int)]
abbrev vD1:List Value:=[Value.pointer none,k_,vI (0:Int),vU (0:Int),Value.nilFunc]
abbrev vD2:List Value:=[vI (0:Int),vI (0:Int),vI (0:Int),vI (0:Int),vU (0:Int)]
abbrev vD3:List Value:=[vS (ByteArray.mk #[]),vI (0:Int),vI (0:Int),vI (0:Int),vI (0:Int),vI (0:Int)]
abbrev Vd:List Value:=[vI (0:Int),vI (0:Int)]
end Go.Sx
namespace Go.Sx
open Go.RowKit
section
variable {P:Program} {c:tP} {n:Sz} {σ:Fr} {M L:List aZ} {d:Option Tmp} {ty:TypeId} {pos:String} {aft:Array Edge} {g:Option (Nat×Bool)} {α:Type} {e:cY α} {r:eI α}
def Cfg {α:Type} (e:cY α) (v:Value) (l:List Value) (i:List (List α)):aZ where
 p w F:=∃A B:Nat->Prop,C_ cY.raw w A v l∧(kX e l i).p w B∧(∀k,A k->F k)∧(∀k,B k->F k)∧∀k,A k->¬B k
 mono:=by
  rintro w x S u ⟨A,B,s,t,m,o,q⟩ j;exact⟨λk=>A k∧k<w.heap.size,λk=>B k∧k<w.heap.size,(Ar cY.raw v l).mono s λk f h=>⟨⟨f,h⟩,(j k (m k f) h).2⟩,(kX e l i).mono t λk f h=>⟨⟨f,h⟩,(j k (o k f) h).2⟩,λk f=>(j k (m k f.1) f.2).1,λk f=>(j k (o k f.1) f.2).1,λk a b=>q k a.1 b.1⟩
def KP {α:Type} (e:cY α) (vs:List Value) (m:List (List Value)) (b:List (List (List α))):aZ where
 p w F:=(vs.length=b.length∧m.length=b.length)∧∃G:Nat->Nat->Prop,(∀i v l a,vs[i]? = some v->m[i]? = some l->b[i]? = some a->(Cfg e v l a).p w (G i))∧(∀i k,G i k->F k)∧∀i j k,G i k->G j k->i=j
 mono:=by
  rintro w D S C ⟨y,G,s,o,t⟩ q;exact⟨y,λi k=>G i k∧k<w.heap.size,λi v l a z A B=>(Cfg e v l a).mono (s i v l a z A B) λk f h=>⟨⟨f,h⟩,(q k (o i k f) h).2⟩,λi k f=>(q k (o i k f.1) f.2).1,λi j k u x=>t i j k u.1 x.1⟩
theorem AC (e:cY α):nQ M L (KP e [] [] []::M) L:=nQ.add λw=>⟨⟨rfl,rfl⟩,λ_ _=>False,λi v f b a=>by simp at a,λ_ _ h=>h,λ_ _ _ h=>h.elim⟩
theorem Sm (i j:Nat) {v:Value} {f:List Value} {a:List (List α)} (b:Nat.beq i j=false) (m:M[i]? = some (Ar cY.raw v f)) (o:M[j]? = some (kX e f a)):nQ M L ((M.set i (Cfg e v f a)).eraseIdx j) L:=λc w t=>
 t.merge i j (λe=>by subst e;simp at b) m o λh k l=>⟨_,_,h,k,λ_=> .inl,λ_=> .inr,l⟩
theorem Jn (i j:Nat) {u:Value} {us:List Value} {p:List (List α)} {vs:List Value} {l:List (List Value)} {b:List (List (List α))} (x:Nat.beq i j=false) (O:M[i]? = some (KP e vs l b)) (Q:M[j]? = some (Cfg e u us p)):nQ M L ((M.set i (KP e (vs++[u]) (l++[us]) (b++[p]))).eraseIdx j) L:=λc w t=>
 t.merge i j (λe=>by subst e;simp at x) O Q (by
  rintro w S F ⟨⟨y,z⟩,G,H,s,I⟩ N C;refine⟨⟨by simp[y],by simp[z]⟩,λq k=>(q<vs.length∧G q k)∨(q=vs.length∧F k),?_,?_,?_⟩
  ·intro q v R B h m o;by_cases D:q<vs.length
   ·rw[List.getElem?_append_left D]at h;rw[List.getElem?_append_left (by omega)]at m o;exact aZ.same (H q v R B h m o) (λk a=> .inl ⟨D,a⟩) (λ_ _ _=>rfl)
   ·rw[List.getElem?_append_right (by omega)]at h m o;have A:q - vs.length=0:=by have:=bA h;simp at this;omega
    rw[A]at h;rw[show q - l.length=0 by omega]at m;rw[show q - b.length=0 by omega]at o;simp at h m o;subst h;subst m;subst o;exact aZ.same N (λk a=> .inr ⟨by omega,a⟩) (λ_ _ _=>rfl)
  ·rintro q k (⟨_,a⟩|⟨_,a⟩)
   ·exact .inl (s q k a)
   ·exact .inr a
  ·rintro q E k (⟨J,a⟩|⟨J,a⟩) (⟨K,f⟩|⟨K,f⟩)
   ·exact I q E k a f
   ·exact absurd f (C k (s q k a))
   ·exact absurd a (C k (s E k f))
   ·omega)
theorem Jo (i j:Nat) {us vs:List Value} {s m:List (List Value)} {h f:List (List (List α))} (B:Nat.beq i j=false) (T:M[i]? = some (KP e vs m f)) (U:M[j]? = some (KP e us s h)):nQ M L ((M.set i (KP e (vs++us) (m++s) (f++h))).eraseIdx j) L:=λc w t=>
 t.merge i j (λe=>by subst e;simp at B) T U (by
  rintro w V W ⟨⟨C,D⟩,G,O,z,Q⟩ ⟨⟨E,F⟩,N,y,l,A⟩ H;refine⟨⟨by simp[C,E],by simp[D,F]⟩,λq k=>(q<vs.length∧G q k)∨(vs.length<=q∧N (q - vs.length) k),?_,?_,?_⟩
  ·intro q v K u x o p;by_cases I:q<vs.length
   ·rw[List.getElem?_append_left I]at x;rw[List.getElem?_append_left (by omega)]at o p;exact aZ.same (O q v K u x o p) (λk a=> .inl ⟨I,a⟩) (λ_ _ _=>rfl)
   ·rw[List.getElem?_append_right (by omega)]at x o p;rw[show q - m.length=q - vs.length by omega]at o;rw[show q - f.length=q - vs.length by omega]at p;exact aZ.same (y _ v K u x o p) (λk a=> .inr ⟨by omega,a⟩) (λ_ _ _=>rfl)
  ·rintro q k (⟨_,a⟩|⟨_,a⟩)
   ·exact .inl (z q k a)
   ·exact .inr (l _ k a)
  ·rintro q J k (⟨R,a⟩|⟨R,a⟩) (⟨S,b⟩|⟨S,b⟩)
   ·exact Q q J k a b
   ·exact absurd (l _ k b) (H k (z q k a))
   ·exact absurd (l _ k a) (H k (z J k b))
   ·have:=A _ _ k a b;omega)
theorem rQ (q:Nat) {vs:List Value} {b:List (List Value)} {a:List (List (List α))} (f:M[q]? = some (KP e vs b a)):∀c w,St c M L w->vs.length=a.length:=λc w t=>by
 obtain⟨_,h⟩:=t.res f;exact h.1.1
theorem VD {j:Nat} {vs:List Value} {f:List (List Value)} {a:List (List (List α))} {k:Int} (x:M[j]? = some (KP e vs f a)) (b:e.Fits r) (h:0<=k) (s:k<a.length):aE M L (S2 r (at' vs k) ((at' f k).zip (at' a k)) (at' a k)):=λw S T U D u E v=>by
 obtain⟨⟨y,z⟩,G,o,p,_⟩:=u j _ x;obtain⟨A,B,t,i,l,m,_⟩:=o k.toNat _ _ _ (gR h (by omega)) (gR h (by omega)) (gR h s);refine⟨(Tv b t i).mono λq C _=>⟨v j q (p _ q (C.elim (l q) (m q))),rfl⟩,?_⟩
 rw[List.map_snd_zip];obtain⟨F,_⟩:=i;omega
theorem Dp [cL P] (i j:Nat) {T E:TypeId} {o p:Nat} {z:Value} {x:Operand} {v:Value} {vs:List Value} {f:List (List Value)} {b:List (List (List α))} (m:ev σ x=some v) (k:M[i]? = some (Ar cY.raw v vs)) (l:M[j]? = some (KP e vs f b))
  (h:cL.tab P T=some ⟨.slice E,o,p,z⟩):Y P c n σ M L ⟨d,.call ⟨.builtin .len,#[x],#[T]⟩,ty,pos,aft,g⟩ (.int .i64 b.length):=λa w s t=>by
 rw[<-rQ j l c w t];exact acq i m k h a w s t
theorem Jh (i:Nat) {v:Value} {l:List α} (j:M[i]? = some (Ar e v l)):∀c w,St c M L w->Sx.one v=true:=λc w t=>by
 obtain⟨_,_,_,h⟩:=t.res j;rcases h with⟨q,_⟩|⟨b,k,a,T,f,q,_⟩<;>rw[q]<;>rfl
end
section
variable {P:Program} {c:tP} {n:Sz} {σ:Fr} {M L:List aZ} {d:Option Tmp} {ty:TypeId} {pos:String} {aft:Array Edge} {g:Option (Nat×Bool)} {α:Type} {e:cY α}
theorem HQ (j:Nat) {vs:List Value} {u:List (List Value)} {o:List (List (List α))} {k:Int} (V:M[j]? = some (KP e vs u o)) (y:0<=k∧k<o.length):nQ M L (Ar cY.raw (at' vs k) (at' u k)::kX e (at' u k) (at' o k)::M.eraseIdx j) L:=by
 rintro c w ⟨Y,F,p,U⟩;obtain⟨⟨W,X⟩,G,R,K,_⟩:=p.res j _ V;obtain⟨A,B,S,T,O,Q,H⟩:=R k.toNat _ _ _ (gR y.1 (by omega)) (gR y.1 (by omega)) (gR y.1 y.2);let s:Nat->Nat:=λq=>if q<j then q else q+1;have t:∀q,s q≠j:=by intro q;simp only[s];split<;>omega
 have E:∀q r,s q=s r->q=r:=by intro q r;simp only[s];split<;>split<;>omega
 have v:∀b,A b->F j b:=λb h=>K _ b (O b h);have x:∀b,B b->F j b:=λb h=>K _ b (Q b h);refine⟨Y,λq b=>(q=0∧A b)∨(q=1∧B b)∨∃r,q=r+2∧F (s r) b,⟨?_,?_,?_⟩,λf C=> ?_⟩
 ·intro q m l
  match q,l with
  |0,l=>
   obtain rfl:=Option.some.inj l;exact aZ.same S (λb a=> .inl ⟨rfl,a⟩) (λ_ _ _=>rfl)
  |1,l=>
   obtain rfl:=Option.some.inj l;exact aZ.same T (λb a=> .inr (.inl ⟨rfl,a⟩)) (λ_ _ _=>rfl)
  | r + 2, l =>
   have l:(M.eraseIdx j)[r]? = some m:=l;have D:M[s r]? = some m:=by
    rw[List.getElem?_eraseIdx]at l;simp only[s];split
    ·rename_i z;rwa[if_pos z]at l
    ·rename_i z;rwa[if_neg z]at l
   exact aZ.same (p.res (s r) m D) (λb a=> .inr (.inr ⟨r,rfl,a⟩)) (λ_ _ _=>rfl)
 ·rintro q b (⟨_,a⟩|⟨_,a⟩|⟨r,_,a⟩)
  ·exact p.rng _ b (v b a)
  ·exact p.rng _ b (x b a)
  ·exact p.rng _ b a
 ·rintro q q' b (⟨I,a⟩|⟨I,a⟩|⟨r,I,a⟩) (⟨J,i⟩|⟨J,i⟩|⟨N,J,i⟩)
  ·omega
  ·exact absurd i (H b a)
  ·exact absurd (p.dis _ _ b (v b a) i).symm (t N)
  ·exact absurd a (H b i)
  ·omega
  ·exact absurd (p.dis _ _ b (x b a) i).symm (t N)
  ·exact absurd (p.dis _ _ b a (v b i)) (t r)
  ·exact absurd (p.dis _ _ b a (x b i)) (t r)
  ·have:=E _ _ (p.dis _ _ b a i);omega
 ·exact aZ.same (U f C) (λb a=>⟨a.1,by
   rintro q (⟨_,h⟩|⟨_,h⟩|⟨r,_,h⟩)
   ·exact a.2 _ (v b h)
   ·exact a.2 _ (x b h)
   ·exact a.2 _ h⟩) (λ_ _ _=>rfl)
end
end Go.Sx
namespace Go.Proofs.YtmdlcmbplnhdnaaGreatDoor
open Go.Sx
def II:aR:=[0,1,1,2,1,2,2,3,1,2,2,3,2,3,3,4,1,2,2,3,2,3,3,4,2,3,3,4,3,4,4,5,1,2,2,3,2,3,3,4,2,3,3,4,3,4,4,5,2,3,3,4,3,4,4,5,3,4,4,5,4,5,5,6,1,2,2,3,2,3,3,4,2,3,3,4,3,4,4,5,2,3,3,4,3,4,4,5,3,4,4,5,4,5,5,6,2,3,3,4,3,4,4,5,3,4,4,5,4,5,5,6,3,4,4,5,4,5,5,6,4,5,5,6,5,6,6,7,1,2,2,3,2,3,3,4,2,3,3,4,3,4,4,5,2,3,3,4,3,4,4,5,3,4,4,5,4,5,5,6,2,3,3,4,3,4,4,5,3,4,4,5,4,5,5,6,3,4,4,5,4,5,5,6,4,5,5,6,5,6,6,7,2,3,3,4,3,4,4,5,3,4,4,5,4,5,5,6,3,4,4,5,4,5,5,6,4,5,5,6,5,6,6,7,3,4,4,5,4,5,5,6,4,5,5,6,5,6,6,7,4,5,5,6,5,6,6,7,5,6,6,7,6,7,7,8]
theorem MG:Jz (ByteArray.mk #[0,1,1,2,1,2,2,3,1,2,2,3,2,3,3,4,1,2,2,3,2,3,3,4,2,3,3,4,3,4,4,5,1,2,2,3,2,3,3,4,2,3,3,4,3,4,4,5,2,3,3,4,3,4,4,5,3,4,4,5,4,5,5,6,1,2,2,3,2,3,3,4,2,3,3,4,3,4,4,5,2,3,3,4,3,4,4,5,3,4,4,5,4,5,5,6,2,3,3,4,3,4,4,5,3,4,4,5,4,5,5,6,3,4,4,5,4,5,5,6,4,5,5,6,5,6,6,7,1,2,2,3,2,3,3,4,2,3,3,4,3,4,4,5,2,3,3,4,3,4,4,5,3,4,4,5,4,5,5,6,2,3,3,4,3,4,4,5,3,4,4,5,4,5,5,6,3,4,4,5,4,5,5,6,4,5,5,6,5,6,6,7,2,3,3,4,3,4,4,5,3,4,4,5,4,5,5,6,3,4,4,5,4,5,5,6,4,5,5,6,5,6,6,7,3,4,4,5,4,5,5,6,4,5,5,6,5,6,6,7,4,5,5,6,5,6,6,7,5,6,6,7,6,7,7,8])=II:=by kernel_rfl
def xJ:aR:=[0,1,28,2,29,14,24,3,30,22,20,15,25,17,4,8,31,27,13,23,21,19,16,7,26,12,18,6,11,5,10,9]
theorem _root_.Go.Sx.Y.bld5 {P:Program} {c:tP} {n:Sz} {a:Fr} {M L:List aZ} {d:Option Tmp} {E:TypeId} {k:String} {j:Array Edge} {g:Option (Nat×Bool)} {T:TypeId} {b e f h i:Nat} {s t u v x:Operand} {l m o p q:Value} {r:Value} (y:ev a s=some l) (z:ev a t=some m) (A:ev a u=some o) (B:ev a v=some p) (C:ev a x=some q) (D:∀w,(Instr.build T ([(b,l),(e,m),(f,o),(h,p),(i,q)]:List (Nat×Value)).toArray).run P w = .ok r w):Y P c n a M L ⟨d,.build T #[(b,s),(e,t),(f,u),(h,v),(i,x)],E,k,j,g⟩ r:=
 Az (ps:=[(b,s),(e,t),(f,u),(h,v),(i,x)]) (vs:=[(b,l),(e,m),(f,o),(h,p),(i,q)]) (by simp[y,z,A,B,C]) D
abbrev ESt:cY ByteArray:=⟨1,Nat.one_pos,λx=>[.string x],λ_=>rfl⟩
abbrev RSt:eI ByteArray:=⟨1,Nat.one_pos,λ_ _ a x=>a=[.string x],λh=>by simp[h],λh _=>h⟩
theorem FSt:ESt.Fits RSt:=⟨rfl,λh=>h,rfl,λ_=>rfl⟩
abbrev cC:cY Int:=cY.int .i64
abbrev bN:eI Int:=eI.int .i64
theorem dM:cC.Fits bN:=FJ .i64
theorem dA:bN.Cell 0 (λx=> .int .i64 x):=FP .i64
abbrev iI:cY PX:=cY.pair ESt (cY.pair cC (cY.pair cC (cY.pair cC (cY.pair cC (cC)))))
abbrev aT:eI PX:=eI.pair RSt (eI.pair bN (eI.pair bN (eI.pair bN (eI.pair bN (bN)))))
theorem iJ:iI.Fits aT:=iR FSt (iR dM (iR dM (iR dM (iR dM (dM)))))
theorem xQ:aT.Cell 1 (λx=> .int .i64 x.2.1):=cG (mN (dA))
theorem Db:aT.Cell 2 (λx=> .int .i64 x.2.2.1):=cG (cG (mN (dA)))
theorem Dc:aT.Cell 3 (λx=> .int .i64 x.2.2.2.1):=cG (cG (cG (mN (dA))))
theorem Dd:aT.Cell 4 (λx=> .int .i64 x.2.2.2.2.1):=cG (cG (cG (cG (mN (dA)))))
theorem De:aT.Cell 5 (λx=> .int .i64 x.2.2.2.2.2):=cG (cG (cG (cG (cG (dA)))))
abbrev b_:cY iH:=cY.pair cC (cC)
abbrev bD:eI iH:=eI.pair bN (bN)
theorem bQ:b_.Fits bD:=iR dM (dM)
theorem oK:bD.Cell 0 (λx=> .int .i64 x.1):=mN (dA)
theorem Fa:bD.Cell 1 (λx=> .int .i64 x.2):=cG (dA)
abbrev qX:eI (Int×(Value×fM)):=eI.pair bN ((eI.sl bD))
theorem KO:qX.All 2 (λx=>[Value.int .i64 (x.1),x.2.1]):=(Mq (QG dM) (QI bD))
theorem CQ:qX.Deep bD (λx=>x.2):=Eh (Dl bD)
abbrev aK:eI (ByteArray×(Value×fM)×(Value×List (Int×(Value×fM)))):=eI.pair RSt (eI.pair (eI.sl bD) ((eI.sl qX)))
theorem Ad:aK.Cell 1 (λx=>x.2.1.1):=cG (mN (eI.sl_cell bD))
theorem Af:aK.Deep bD (λx=>x.2.1):=Eh (Ua (Dl bD))
theorem Ae:aK.Cell 2 (λx=>x.2.2.1):=cG (cG (eI.sl_cell qX))
theorem f_:aK.Deep qX (λx=>x.2.2):=Eh (Eh (Dl qX))
abbrev EFn:cY Nat:=cY.fn
abbrev RFn:eI Nat:=eI.fn
theorem FFn:EFn.Fits RFn:=NN
abbrev Iy:cY (Int×Nat):=cY.pair cC (EFn)
abbrev Zq:eI (Int×Nat):=eI.pair bN (RFn)
theorem Bf:Iy.Fits Zq:=iR dM (FFn)
abbrev EBo:cY Bool:=cY.bool
abbrev pC:cY Int:=cY.int .u32
abbrev zK:eI Int:=eI.int .u32
theorem tR:pC.Fits zK:=FJ .u32
theorem G_:zK.Cell 0 (λx=> .int .u32 x):=FP .u32
abbrev HO:cY Int:=cY.int .u8
abbrev cE:cY (Int×Int×Int×Int×Int):=cY.pair cC (cY.pair cC (cY.pair cC (cY.pair cC (pC))))
abbrev Bi:eI (Int×Int×Int×Int×Int):=eI.pair bN (eI.pair bN (eI.pair bN (eI.pair bN (zK))))
theorem dG:cE.Fits Bi:=iR dM (iR dM (iR dM (iR dM (tR))))
theorem zZ:Bi.Cell 3 (λx=> .int .i64 x.2.2.2.1):=cG (cG (cG (mN (dA))))
def Qb (x:Int):Value:=Value.int .i64 (x)
def nH (x:eZ):Value:=Value.agg #[Value.int .i64 (x.1),Value.int .i64 (x.2)]
theorem XA (x y:eZ) (m:Nat) (w:World):(Op.equalIn (m+2) 141 (.agg #[.int .i64 x.1,.int .i64 x.2]) (.agg #[.int .i64 y.1,.int .i64 y.2])).run Tryz.prog w = .ok (decide (x=y)) w:=by
 have c:∀a b:Int,(Op.equalIn (m+1) 3 (.int .i64 a) (.int .i64 b)).run Tryz.prog w = .ok (a==b) w:=by
  intro a b;simp[Op.equalIn]
 unfold Op.equalIn;simp[show List.range' 0 2=[0,1]from rfl,part,isAgg,c];obtain⟨d,e⟩:=x;obtain⟨f,g⟩:=y;by_cases h:d=f<;>by_cases i:e=g<;>simp[h,i,c]
theorem Wz (b:Bool) (k:eZ) (w:World):(Instr.checkKey b 10000 141 (nH k)).run Tryz.prog w = .ok () w:=by
 have a:∀m:Nat,(Instr.checkKey b (m+2) 141 (nH k)).run Tryz.prog w = .ok () w:=by
  intro m;simp[Instr.checkKey,nH,part,isAgg,show List.range' 0 2=[0,1]from rfl]
 exact a 9998
theorem M_:Jg Tryz.prog 141 nH:=QB Tryz.underlying141 Wz (λ_ _=>rfl) (λa b w=>XA a b 9998 w) (λk=>by
 have c:∀m:Nat,Instr.sameBits (m+2) (nH k) (nH k)=true:=λm=>by simp[Instr.sameBits,nH]
 exact c 9998)
theorem mR (b:Value) (c:one b=true) (a:Array Value) (h:a.size=1*1):Instr.fill (λi=>some (i*1,1)) a [(0,b)]=some [b].toArray:=by
 obtain⟨l⟩:=a
 match l,h with
 | [z0],_=>simp[Instr.fill,fS c]
theorem zC (b c:Value) (a:Array Value) (h:a.size=1*2):Instr.fill (λi=>some (i*2,2)) a [(0,.agg #[b,c])]=some [b,c].toArray:=by
 obtain⟨l⟩:=a
 match l,h with
 | [z0,z1],_=>simp[Instr.fill,Value.cells]
theorem OJ (b c d e f:Value) (a:Array Value) (h:a.size=1*5):Instr.fill (λi=>some (i*5,5)) a [(0,.agg #[b,c,d,e,f])]=some [b,c,d,e,f].toArray:=by
 obtain⟨l⟩:=a
 match l,h with
 | [z0,z1,z2,z3,z4],_=>simp[Instr.fill,Value.cells]
theorem JQ (b c:Value) (d:one b=true) (e:one c=true) (a:Array Value) (h:a.size=2*1):Instr.fill (λi=>some (i*1,1)) a [(0,b),(1,c)]=some [b,c].toArray:=by
 obtain⟨l⟩:=a
 match l,h with
 | [z0,z1],_=>simp[Instr.fill,fS d,fS e]
theorem JS (d e f g j k m n o p b c:Value) (a:Array Value) (h:a.size=2*6):Instr.fill (λi=>some (i*6,6)) a [(0,.agg #[d,e,f,g,j,k]),(1,.agg #[m,n,o,p,b,c])]=some [d,e,f,g,j,k,m,n,o,p,b,c].toArray:=by
 obtain⟨l⟩:=a
 match l,h with
 | [z0,z1,z2,z3,z4,z5,z6,z7,z8,z9,z10,z11],_=>simp[Instr.fill,Value.cells]
theorem Xb (b c d e f g:Value) (a:Array Value) (h:a.size=3*2):Instr.fill (λi=>some (i*2,2)) a [(0,.agg #[b,c]),(1,.agg #[d,e]),(2,.agg #[f,g])]=some [b,c,d,e,f,g].toArray:=by
 obtain⟨l⟩:=a
 match l,h with
 | [z0,z1,z2,z3,z4,z5],_=>simp[Instr.fill,Value.cells]
theorem Xc (b c d e f g:Value) (j:one b=true) (k:one c=true) (m:one d=true) (n:one e=true) (o:one f=true) (p:one g=true) (a:Array Value) (h:a.size=6*1):Instr.fill (λi=>some (i*1,1)) a [(0,b),(1,c),(2,d),(3,e),(4,f),(5,g)]=some [b,c,d,e,f,g].toArray:=by
 obtain⟨l⟩:=a
 match l,h with
 | [z0,z1,z2,z3,z4,z5],_=>simp[Instr.fill,fS j,fS k,fS m,fS n,fS o,fS p]
def yV (a:Int) (b:Bool):Option (Int):=
 if b=true then(some (-1:Int))else(if a<=(17:Int)then(some (0:Int))else(if a<=(29:Int)then(some (1:Int))else(if a<=(42:Int)then(some (2:Int))else(some (3:Int)))))
def wU (U:Nat) (a:Int):Option (Int):=
 if a<(1:Int)then(yV a (true))else(yV a (decide ((43:Int)<a)))
theorem aaa:aW Tryz.prog 176:=Tryz.call176
theorem NB (U:Nat) {b:Int} (r:Int) (h:wU U b=some r):
  aX Tryz.prog 176 #[vI (b)] [] (λx:Unit=>vI (r)) (λx l=>l) (λ_ l=>l):=by
 refine aX.of Tryz.func176 Z Tryz.ntmps176 Z λc=>?_;refine aV<|aD Z<|aL<|aJ<|aS<|aJ<|dR (λa=>yV b a=some r) (λa d=>[(0,vI (b)),(3,vB (a))]) (λa d=>[]) ?_ ?_
 ·refine aO<|aA Z<|cM Z<|aA Z ?_;refine Dg h Z (λ_ h=>?_) λ_ h=>?_
  ·refine aG Z<|aG Z<|dV Z<|aD Z<|aL ?_;exact gY (true) () h SF Z
  refine cO Z<|aN Z (zA Z Z) Z<|fK Z<|aD Z<|aL ?_;exact gY (decide ((43:Int)<b)) () h SF Z
 intro a d h;refine Ai h Z (λ_ h=>?_) λ_ h=>?_
 ·refine aV<|aD Z<|aL<|aU<|bK<|aI ?_;cases h;exact kH Z
 refine aV<|aA Z<|aB (AD Z Z) Z<|aD Z<|aL ?_;refine eX h Z (λh=>?_) λh=>?_
 ·refine aV<|aD Z<|aL<|aU<|bK<|aI ?_;cases h;exact kH Z
 refine aV<|aA Z<|aB (AD Z Z) Z<|aD Z<|aL ?_;refine eX h Z (λh=>?_) λh=>?_
 ·refine aV<|aD Z<|aL<|aU<|bK<|aI ?_;cases h;exact kH Z
 refine aV<|aA Z<|aB (AD Z Z) Z<|aD Z<|aL ?_;refine eX h Z (λh=>?_) λh=>?_
 ·refine aV<|aD Z<|aL<|aU<|bK<|aI ?_;cases h;exact kH Z
 refine dL<|mI<|aV<|aD Z<|aL<|aU ?_;cases h;exact kH Z
def Eb  (a:Unit):Option (Int):=
 some (-1:Int)
def lP (U:Nat) (d:fM) (a:eZ) (c:iH->Option (Int)):Option (Int):=
 if a.1<(List.length d:Int)then(ck (0<=a.1∧a.1<(List.length d:Int)) (Option.bind (wU U ((at' d a.1).1)) λb=>(if b<(0:Int)then(some (-1:Int))else(if(wI .i64 (a.2+(wI .i64 (b - (1:Int)))))=(0:Int)then(some (wI .i64 (a.1+(1:Int))))else(c ((wI .i64 (a.1+(1:Int))),(wI .i64 (a.2+(wI .i64 (b - (1:Int)))))))))))else(Eb  (()))
def Bw (U:Nat) (b:fM) (c:Int) (a:Bool):Option (Int):=
 if a=true then(some (-1:Int))else(bJ (lP U b) U (c,(1:Int)))
def Cu (U:Nat) (b:fM) (a:Int):Option (Int):=
 if a<(0:Int)then(Bw U b a (true))else(Bw U b a (decide ((List.length b:Int)<=a)))
theorem ZW:aW Tryz.prog 159:=Tryz.call159
theorem RY (U:Nat) {g:fM} {b:Int} (k:Value) (r:Int) (h:Cu U g b=some r):
  aX Tryz.prog 159 #[k,vI (b)] [Sl bD k g] (λx:Unit=>vI (r)) (λx l=>l) (λ_ l=>l):=by
 refine aX.of Tryz.func159 Z Tryz.ntmps159 Z λc=>?_;refine aV<|aD Z<|aL<|aJ<|aJ<|dR (λd=>Bw U g b d=some r) (λd n=>[(0,k),(1,vI (b)),(14,vB (d))]) (λd n=>[]) ?_ ?_
 ·refine aO<|aA Z<|cM Z<|aA Z ?_;refine Dg h Z (λ_ h=>?_) λ_ h=>?_
  ·refine aG Z<|aG Z<|aG Z<|aG Z<|dV Z<|aL ?_;exact gY (true) () h SF Z
  refine cO Z<|cO Z<|aN Z (fW Z (aE.fact 0 Z) Z) Z<|aN Z (Do Z Z) Z<|fK Z<|aL ?_;exact gY (decide ((List.length g:Int)<=b)) () h SF Z
 intro d n h;refine Ai h Z (λ_ h=>?_) λ_ h=>?_
 ·refine aV<|aD Z<|aL<|aU<|aI ?_;cases h;exact kH Z
 refine cK<|aJ<|dR (λj=>Eb  j=some r) (λj o=>[]) (λj o=>[]) ?_ ?_
 ·refine aV<|aD Z<|aL<|aS<|dU (lP U g) (λa e=>[(0,k),(1,vI (a.1)),(5,vI (a.2))]) (λa e=>[]) (b,(1:Int)) () h SF (a_.refl _) ?_;intro p a e h;refine aJ<|aV<|aA Z<|aA Z<|kB (aE.fact 0 Z) Z<|cM Z<|aL ?_;refine eX h Z (λh=>?_) λh=>?_
  ·refine cK<|aJ<|aS<|aV<|aA Z<|aA Z<|cX h λf h=>aB (aY Z Z (aE.fact 0 Z) Z Z f) Z<|aB (fQ Z Z Z Z Z) Z<|aB (jN Z (aE.fact 0 Z) Z Z Z oK f) Z<|fH h λi m h=>aH (aM.callQ aaa (NB U  i m) Z .nil) Z λq=>aD Z<|aL<|aJ<|aV<|aA Z<|cM Z<|aL ?_;refine eX h Z (λh=>?_) λh=>?_
   ·refine aV<|aD Z<|aL<|aU<|aI<|bK<|aI<|aI<|bK<|aI ?_;cases h;exact kH Z
   refine cK<|aV<|aA Z<|aA Z<|aB (lA Z Z) Z<|cJ Z<|aD Z<|aL<|aV<|aA Z<|cP Z<|aL ?_;refine eX h Z (λh=>?_) λh=>?_
   ·refine aV<|aA Z<|cJ Z<|aD Z<|aL<|aU<|bK<|aI<|aI<|bK<|aI ?_;cases h;exact kH Z
   refine dL<|mI<|aO<|aA Z<|cJ Z<|aD Z<|aL ?_;exact xY ((wI .i64 (a.1+(1:Int))),(wI .i64 (a.2+(wI .i64 (i - (1:Int)))))) () h SF Z
  refine fC ?_;exact gY () (()) h SF Z
 intro j o h;unfold Eb at h;refine aV<|aD Z<|aL<|aU ?_;cases h;exact kH Z
def iV (U:Nat) (a:Bool):Option (Int):=
 if a=true then(some (1:Int))else(some (0:Int))
theorem yJ:aW Tryz.prog 185:=Tryz.call185
theorem kZ (U:Nat) {a:Bool} (r:Int) (h:iV U a=some r):
  aX Tryz.prog 185 #[vB (a)] [] (λx:Unit=>vI (r)) (λx l=>l) (λ_ l=>l):=by
 refine aX.of Tryz.func185 Z Tryz.ntmps185 Z λc=>?_;refine aV<|aD Z<|aL<|aJ<|aV<|aA Z<|aL ?_;refine Ai h Z (λ_ h=>?_) λ_ h=>?_
 ·refine aV<|aD Z<|aL<|aU<|aI ?_;cases h;exact kH Z
 refine cK<|aV<|aD Z<|aL<|aU ?_;cases h;exact kH Z
def rY (U:Nat) (a:Vb) (d:Int) (b:Int) (c:Int):Option (Int):=
 if d=(6:Int)then(some (List.length a.2.1.1:Int))else(if d=(7:Int)then(some (a.2.2.1))else(if d=(8:Int)then(ck (0<=b∧b<(List.length a.2.1.1:Int)) (some (at' a.2.1.1 b)))else(if d=(9:Int)then(ck (0<=b∧b<(List.length a.2.1.2:Int)) (some (List.length (at' a.2.1.2 b):Int)))else(if d=(10:Int)then(Option.bind (iV U (decide (b=(0:Int)))) λf=>(some (f)))else(if d=(11:Int)then(some (c))else(ck (0<=b∧b<(List.length a.2.1.2:Int)) (ck (0<=c∧c<(List.length (at' a.2.1.2 b):Int)) (if d=(13:Int)then(ck (0<=((at' (at' a.2.1.2 b) c).1)∧((at' (at' a.2.1.2 b) c).1)<(List.length a.2.1.1:Int)) (some (at' a.2.1.1 ((at' (at' a.2.1.2 b) c).1))))else(if d=(14:Int)then(ck (0<=((at' (at' a.2.1.2 b) c).1)∧((at' (at' a.2.1.2 b) c).1)<(List.length a.2.1.2:Int)) (some (List.length (at' a.2.1.2 ((at' (at' a.2.1.2 b) c).1)):Int)))else(if d=(15:Int)then(Option.bind (iV U (decide (((at' (at' a.2.1.2 b) c).1)=(0:Int)))) λe=>(some (e)))else(if d=(16:Int)then(some ((at' (at' a.2.1.2 b) c).2))else(ck (0<=b∧b<(List.length a.2.2.2:Int)) (ck (0<=c∧c<(List.length (at' a.2.2.2 b):Int)) (some (at' (at' a.2.2.2 b) c)))))))))))))))
theorem aab:aW Tryz.prog 184:=Tryz.call184
theorem DR (U:Nat) {d:Vb} {s:Int} {f:Int} {g:Int} (i:Nat)  (t:Value)  (u:Value)  (v:Value)  (w:Value)  (F:lX)  (y:Value)  (G:sH) (r:Int) (h:rY U d s f g=some r):
  aX Tryz.prog 184 #[vP i,vI (s),vI (f),vI (g)] [bU i [vS (d.1.1),t,u,v,w,vI (d.2.2.1),y] 137,Sl aT t d.1.2.1,Sl aK u d.1.2.2,Sl bN v d.2.1.1,S2 bD w F d.2.1.2,S2 bN y G d.2.2.2] (λx:Unit=>vI (r)) (λx l=>l) (λ_ l=>l):=by
 refine aX.of Tryz.func184 Z Tryz.ntmps184 Z λc=>?_;refine aV<|aD Z<|aL<|aJ<|aV<|aA Z<|aL<|aS<|aV<|cP Z<|aD Z<|aL ?_;refine eX h Z (λh=>?_) λh=>?_
 ·refine aV<|aA Z<|aB (bX Z) Z<|bS Z<|bS Z<|aB (dH Z (aE.fact 0 Z) Z Z Z) Z<|kB (aE.fact 3 Z) Z<|aD Z<|aL<|aU<|bK<|aI ?_;cases h;exact kH Z
 refine aV<|cP Z<|aD Z<|aL ?_;refine eX h Z (λh=>?_) λh=>?_
 ·refine aV<|aA Z<|aB (bX Z) Z<|bS Z<|aB (dH Z (aE.fact 0 Z) Z Z Z) Z<|aD Z<|aL<|aU<|bK<|aI ?_;cases h;exact kH Z
 refine aV<|cP Z<|aD Z<|aL ?_;refine eX h Z (λh=>?_) λh=>?_
 ·refine aV<|aA Z<|aB (bX Z) Z<|bS Z<|bS Z<|aB (dH Z (aE.fact 0 Z) Z Z Z) Z<|aA Z<|cX h λq h=>aB (aY Z Z (aE.fact 3 Z) Z Z q) Z<|aB (bV Z (aE.fact 3 Z) Z Z Z dA q) Z<|aD Z<|aL<|aU<|bK<|aI ?_;cases h;exact kH Z
 refine aV<|cP Z<|aD Z<|aL ?_;refine eX h Z (λh=>?_) λh=>?_
 ·refine aV<|aA Z<|aB (bX Z) Z<|bS Z<|bS Z<|aB (dH Z (aE.fact 0 Z) Z Z Z) Z<|aA Z<|cX h λn h=>aB (cA Z Z (aE.fact 4 Z) Z Z n) Z<|aB (cF Z (aE.fact 4 Z) Z Z n) Z<|aB (fW Z (aE.el (aE.fact 4 Z) n.1 n.2) Z) Z<|aD Z<|aL<|aU<|bK<|aI ?_;cases h;exact kH Z
 refine aV<|cP Z<|aD Z<|aL ?_;refine eX h Z (λh=>?_) λh=>?_
 ·refine aV<|aA Z<|cP Z<|fH h λB C h=>aH (aM.callQ yJ (kZ U  B C) Z .nil) Z λD=>aD Z<|aL<|aU<|bK<|aI ?_;cases h;exact kH Z
 refine aV<|cP Z<|aD Z<|aL ?_;refine eX h Z (λh=>?_) λh=>?_
 ·refine aV<|aA Z<|aD Z<|aL<|aU<|bK<|aI ?_;cases h;exact kH Z
 refine dL<|mI<|aV<|aA Z<|aB (bX Z) Z<|bS Z<|bS Z<|aB (dH Z (aE.fact 0 Z) Z Z Z) Z<|aA Z<|cX h λa h=>aB (cA Z Z (aE.fact 4 Z) Z Z a) Z<|aB (cF Z (aE.fact 4 Z) Z Z a) Z<|aA Z<|cX h λj h=>aB (aY Z Z (aE.el (aE.fact 4 Z) a.1 a.2) Z Z j) Z<|aB (iZ (cs:=[vI ((at' (at' d.2.1.2 f) g).1),vI ((at' (at' d.2.1.2 f) g).2)]) Z (aE.el (aE.fact 4 Z) a.1 a.2) bQ Z Z Z Z j) Z<|aH (aM.alloc (cs:=Vd) Z Z) Z λA=>bT 0 (vs:=[vI ((at' (at' d.2.1.2 f) g).1),vI ((at' (at' d.2.1.2 f) g).2)]) Z Z Z Z Z Z<|aL<|aJ<|aV<|aA Z<|aL<|aS<|aV<|cP Z<|aD Z<|aL ?_;refine eX h Z (λh=>?_) λh=>?_
 ·refine aJ ?_;refine JR.start [0,1,3,7,15,0,32,127,255,511] 7 mixedOrders (by decide +kernel) ?_;refine JR.open (by exact rfl) ?_;refine bH Z<|iF Z (bX Z)<|dB Z<|dB Z<|bL Z .nil (lR 0 Z) (dH Z (aE.fact 0 Z) Z Z Z) aP.z<|dB Z<|jQ 0 Z<|bP 7 Z Z<|cX h λk h=>aB (aY Z Z (aE.fact 3 Z) Z Z k) Z<|aB (bV Z (aE.fact 3 Z) Z Z Z dA k) Z<|aD Z<|aL<|aU<|bK<|aI ?_;cases h;exact tO Z
 refine aV<|cP Z<|aD Z<|aL ?_;refine eX h Z (λh=>?_) λh=>?_
 ·refine aJ ?_;refine JR.start [0,1,3,7,15,0,32,127,255,511,1023] 7 mixedOrders (by decide +kernel) ?_;refine JR.open (by exact rfl) ?_;refine bH Z<|iF Z (bX Z)<|dB Z<|dB Z<|bL Z .nil (lR 0 Z) (dH Z (aE.fact 0 Z) Z Z Z) aP.z<|dB Z<|jQ 0 Z<|bP 7 Z Z<|cX h λe h=>aB (cA Z Z (aE.fact 4 Z) Z Z e) Z<|aB (cF Z (aE.fact 4 Z) Z Z e) Z<|aB (fW Z (aE.el (aE.fact 4 Z) e.1 e.2) Z) Z<|aD Z<|aL<|aU<|bK<|aI ?_;cases h;exact tO Z
 refine aV<|cP Z<|aD Z<|aL ?_;refine eX h Z (λh=>?_) λh=>?_
 ·refine aV<|bS Z<|dC 0 Z<|cP Z<|fH h λo p h=>aH (aM.callQ yJ (kZ U  o p) Z .nil) Z λE=>aD Z<|aL<|aU<|bK<|aI ?_;cases h;exact tO Z
 refine aV<|cP Z<|aD Z<|aL ?_;refine eX h Z (λh=>?_) λh=>?_
 ·refine aV<|bS Z<|dC 0 Z<|aD Z<|aL<|aU<|bK<|aI ?_;cases h;exact tO Z
 refine dL<|mI<|aV<|aA Z<|aB (bX Z) Z<|bS Z<|aB (dH Z (aE.fact 0 Z) Z Z Z) Z<|aA Z<|cX h λb h=>aB (cA Z Z (aE.fact 5 Z) Z Z b) Z<|aB (cF Z (aE.fact 5 Z) Z Z b) Z<|aA Z<|cX h λm h=>aB (aY Z Z (aE.el (aE.fact 5 Z) b.1 b.2) Z Z m) Z<|aB (bV Z (aE.el (aE.fact 5 Z) b.1 b.2) Z Z Z dA m) Z<|aD Z<|aL<|aU ?_;cases h;exact tO Z
def mA (U:Nat) (a:NE) (b:eZ) (c:Int):Option (Int):=
 if b.1=(1:Int)then(some (b.2))else(if b.1=(2:Int)then(some (1:Int))else(if b.1=(3:Int)then(some (0:Int))else(if b.1=(4:Int)then(some (-1:Int))else(if b.1=(5:Int)then(ck (0<=a.2.2.1∧a.2.2.1<(List.length a.2.1:Int)) (ck (0<=b.2∧b.2<(List.length (at' a.2.1 a.2.2.1):Int)) (some (at' (at' a.2.1 a.2.2.1) b.2))))else(if b.1=(12:Int)then(ck (0<=a.2.2.1∧a.2.2.1<(List.length a.1.2.1.2:Int)) (ck (0<=c∧c<(List.length (at' a.1.2.1.2 a.2.2.1):Int)) (ck (0<=((at' (at' a.1.2.1.2 a.2.2.1) c).1)∧((at' (at' a.1.2.1.2 a.2.2.1) c).1)<(List.length a.2.1:Int)) (ck (0<=b.2∧b.2<(List.length (at' a.2.1 ((at' (at' a.1.2.1.2 a.2.2.1) c).1)):Int)) (some (at' (at' a.2.1 ((at' (at' a.1.2.1.2 a.2.2.1) c).1)) b.2))))))else(Option.bind (rY U ((((a.1.1.1,a.1.1.2.1,a.1.1.2.2)),((a.1.2.1.1,a.1.2.1.2)),a.1.2.2.1,a.1.2.2.2)) b.1 a.2.2.1 c) λd=>(some (d))))))))
theorem ZY:aW Tryz.prog 165:=Tryz.call165
theorem ED (U:Nat) {d:NE} {k:eZ} {y:Int} (g:Nat)  (e:Nat)  (o:Value)  (p:Value)  (q:Value)  (s:Value)  (B:lX)  (t:Value)  (C:sH)  (A:Value)  (v:sH)  (m:Value) (r:Int) (h:mA U d k y=some r):
  aX Tryz.prog 165 #[vP g,Value.agg #[vI (k.1),vI (k.2)],vI (y)] [bU g [vP e,A,vI (d.2.2.1),m] 207,bU e [vS (d.1.1.1),o,p,q,s,vI (d.1.2.2.1),t] 137,Sl aT o d.1.1.2.1,Sl aK p d.1.1.2.2,Sl bN q d.1.2.1.1,S2 bD s B d.1.2.1.2,S2 bN t C d.1.2.2.2,S2 bN A v d.2.1,Sl bD m d.2.2.2] (λx:Unit=>vI (r)) (λx l=>l) (λ_ l=>l):=by
 refine aX.of Tryz.func165 Z Tryz.ntmps165 Z λc=>?_;refine aV<|aH (aM.box (cs:=[vI (k.1),vI (k.2)]) Z Z) Z λE=>aD Z<|aL<|aJ<|aV<|bS Z<|dC 0 Z<|aL<|aS<|aV<|cP Z<|aD Z<|aL ?_;refine eX h Z (λh=>?_) λh=>?_
 ·refine aV<|bS Z<|dC 0 Z<|aD Z<|aL<|aU<|bK<|aI ?_;cases h;exact tO Z
 refine aV<|cP Z<|aD Z<|aL ?_;refine eX h Z (λh=>?_) λh=>?_
 ·refine aV<|aD Z<|aL<|aU<|bK<|aI ?_;cases h;exact tO Z
 refine aV<|cP Z<|aD Z<|aL ?_;refine eX h Z (λh=>?_) λh=>?_
 ·refine aV<|aD Z<|aL<|aU<|bK<|aI ?_;cases h;exact tO Z
 refine aV<|cP Z<|aD Z<|aL ?_;refine eX h Z (λh=>?_) λh=>?_
 ·refine aV<|aD Z<|aL<|aU<|bK<|aI ?_;cases h;exact tO Z
 refine aV<|cP Z<|aD Z<|aL ?_;refine eX h Z (λh=>?_) λh=>?_
 ·refine aJ ?_;refine JR.start [0,1,3,7,0,16,48,112,255,511,0,1024,4095,8191,16383] 12 mixedOrders (by decide +kernel) ?_;refine JR.open (by exact rfl) ?_;refine bH Z<|iF Z (bX Z)<|dB Z<|bL Z .nil (lR 0 Z) (dH Z (aE.fact 0 Z) Z Z Z) aP.z<|bH Z<|iF Z (bX Z)<|dB Z<|bL Z .nil (lR 0 Z) (dH Z (aE.fact 0 Z) Z Z Z) aP.z<|cX h λf h=>bL Z .nil (lR 7 Z) (cA Z Z (aE.fact 0 Z) Z Z f) aP.z<|bL Z .nil (lR 7 Z) (cF Z (aE.fact 0 Z) Z Z f) aP.z<|dB Z<|jQ 0 Z<|bP 12 Z Z<|cX h λw h=>aB (aY Z Z (aE.el (aE.fact 7 Z) f.1 f.2) Z Z w) Z<|aB (bV Z (aE.el (aE.fact 7 Z) f.1 f.2) Z Z Z dA w) Z<|aD Z<|aL<|aU<|bK<|aI ?_;cases h;exact tO Z
 refine aV<|cP Z<|aD Z<|aL ?_;refine eX h Z (λh=>?_) λh=>?_
 ·refine aJ ?_;refine JR.start [0,1,3,7,0,16,48,112,240,496,1008,2032,0,4096,12288,28672,65520,131056,0,524272,1048560,2097136,4194303,8388607,0,16777216,67108863,134217727,268435455] 26 mixedOrders (by decide +kernel) ?_;refine JR.open (by exact rfl) ?_;refine bH Z<|iF Z (bX Z)<|dB Z<|bL Z .nil (lR 0 Z) (dH Z (aE.fact 0 Z) Z Z Z) aP.z<|bH Z<|iF Z (bX Z)<|dB Z<|bL Z .nil (lR 0 Z) (dH Z (aE.fact 0 Z) Z Z Z) aP.z<|iF Z (bX Z)<|dB Z<|dB Z<|bL Z .nil (lR 1 Z) (dH Z (aE.fact 0 Z) Z Z Z) aP.z<|bH Z<|iF Z (bX Z)<|dB Z<|bL Z .nil (lR 0 Z) (dH Z (aE.fact 0 Z) Z Z Z) aP.z<|cX h λa h=>bL Z .nil (lR 5 Z) (cA Z Z (aE.fact 0 Z) Z Z a) aP.z<|bL Z .nil (lR 5 Z) (cF Z (aE.fact 0 Z) Z Z a) aP.z<|bH Z<|cX h λi h=>bL Z .nil (lR 5 Z) (aY Z Z (aE.el (aE.fact 0 Z) a.1 a.2) Z Z i) aP.z<|iF Z (fQ Z Z Z Z Z)<|bL Z .nil (lR 5 Z) (jN Z (aE.el (aE.fact 0 Z) a.1 a.2) Z Z Z oK i) aP.z<|cX h λb h=>bL Z .nil (lR 7 Z) (cA Z Z (aE.fact 0 Z) Z Z b) aP.z<|bL Z .nil (lR 7 Z) (cF Z (aE.fact 0 Z) Z Z b) aP.z<|dB Z<|jQ 0 Z<|bP 26 Z Z<|cX h λj h=>aB (aY Z Z (aE.el (aE.fact 7 Z) b.1 b.2) Z Z j) Z<|aB (bV Z (aE.el (aE.fact 7 Z) b.1 b.2) Z Z Z dA j) Z<|aD Z<|aL<|aU<|bK<|aI ?_;cases h;exact tO Z
 refine dL<|mI<|aJ ?_;refine JR.start [0,1,3,7,0,16,0,64,192,448,0,2047,4095] 11 mixedOrders (by decide +kernel) ?_;refine JR.open (by exact rfl) ?_;refine bH Z<|iF Z (bX Z)<|dB Z<|bL Z .nil (lR 0 Z) (dH Z (aE.fact 0 Z) Z Z Z) aP.z<|dB Z<|jQ 0 Z<|bH Z<|iF Z (bX Z)<|dB Z<|bL Z .nil (lR 0 Z) (dH Z (aE.fact 0 Z) Z Z Z) aP.z<|bH Z<|bP 11 Z Z<|fH h λn u h=>aH (aM.callQ aab (DR U e o p q s B t C n u) Z (pO [1,2,3,4,5,6] Z)) Z λD=>aD Z<|aL<|aU ?_;cases h;exact tO Z
def Ao (U:Nat) (b:Int) (a:Int):Option (Int):=
 if b=(18:Int)then(some (wI .i64 (0 - a)))else(Option.bind (iV U (decide (a=(0:Int)))) λc=>(some (c)))
theorem ZZ:aW Tryz.prog 166:=Tryz.call166
theorem Nu (U:Nat) {a:Int} {b:Int} (r:Int) (h:Ao U a b=some r):
  aX Tryz.prog 166 #[vI (a),vI (b)] [] (λx:Unit=>vI (r)) (λx l=>l) (λ_ l=>l):=by
 refine aX.of Tryz.func166 Z Tryz.ntmps166 Z λc=>?_;refine aV<|aD Z<|aL<|aJ<|aV<|aA Z<|cP Z<|aL ?_;refine eX h Z (λh=>?_) λh=>?_
 ·refine aV<|aA Z<|aB (So Z) Z<|aD Z<|aL<|aU<|aI ?_;cases h;exact kH Z
 refine cK<|aV<|aA Z<|cP Z<|fH h λd e h=>aH (aM.callQ yJ (kZ U  d e) Z .nil) Z λf=>aD Z<|aL<|aU ?_;cases h;exact kH Z
def jK (U:Nat) (a:Int):Option (Int):=
 some (max (-1073741824:Int) (min a (1073741824:Int)))
theorem Ek:aW Tryz.prog 187:=Tryz.call187
theorem mK (U:Nat) {a:Int} (r:Int) (h:jK U a=some r):
  aX Tryz.prog 187 #[vI (a)] [] (λx:Unit=>vI (r)) (λx l=>l) (λ_ l=>l):=by
 refine aX.of Tryz.func187 Z Tryz.ntmps187 Z λc=>?_;unfold jK at h;refine aV<|aD Z<|aL<|aV<|aA Z<|aB (abH Z Z) Z<|aB (Lh Z Z) Z<|aD Z<|aL<|aU ?_;cases h;exact kH Z
def pL  (a:Int):Option (Int):=
 some (a)
def sR (a:Int) (b:Int) (c:Bool):Option (Int):=
 if c=true then(pL  (wI .i64 ((wI .i64 (Int.tdiv a b)) - (1:Int))))else(pL  (wI .i64 (Int.tdiv a b)))
def qT (U:Nat) (b:Int) (a:Int):Option (Int):=
 if a=(0:Int)then(some (0:Int))else(ck (a≠0) (ck (a≠0) (if(Int.tmod b a)≠(0:Int)then(sR b a (((decide (b<(0:Int))) != (decide (a<(0:Int))))))else(sR b a (false)))))
theorem SD:aW Tryz.prog 188:=Tryz.call188
theorem CY (U:Nat) {a:Int} {b:Int} (r:Int) (h:qT U a b=some r):
  aX Tryz.prog 188 #[vI (a),vI (b)] [] (λx:Unit=>vI (r)) (λx l=>l) (λ_ l=>l):=by
 refine aX.of Tryz.func188 Z Tryz.ntmps188 Z λc=>?_;refine aV<|aD Z<|aL<|aJ<|aV<|aA Z<|cP Z<|aL ?_;refine eX h Z (λh=>?_) λh=>?_
 ·refine aV<|aD Z<|aL<|aU<|aI ?_;cases h;exact kH Z
 refine cK<|aV<|aA Z<|aA Z<|cX h λj h=>aB (VV Z Z j) Z<|aD Z<|aL<|aJ<|dR (λd=>pL  d=some r) (λd g=>[(5,vI (d))]) (λd g=>[]) ?_ ?_
 ·refine aJ<|dR (λe=>sR a b e=some r) (λe i=>[(5,vI (wI .i64 (Int.tdiv a b))),(21,vB (e))]) (λe i=>[]) ?_ ?_
  ·refine aO<|aA Z<|aA Z<|cX h λf h=>aB (Jr Z Z f) Z<|p_ Z<|aA Z ?_;refine Dg h Z (λ_ h=>?_) λ_ h=>?_
   ·refine cO Z<|aN Z (EK Z Z) Z<|cO Z<|aN Z (EK Z Z) Z<|aN Z (acr Z Z Z) Z<|dV Z<|aL ?_;exact gY (((decide (a<(0:Int))) != (decide (b<(0:Int))))) () h SF Z
   refine aG Z<|aG Z<|aG Z<|aG Z<|aG Z<|fK Z<|aL ?_;exact gY (false) () h SF Z
  intro e i h;refine Ai h Z (λ_ h=>?_) λ_ h=>?_
  ·refine aO<|aA Z<|aB (lA Z Z) Z<|aD Z<|aL ?_;exact gY (wI .i64 ((wI .i64 (Int.tdiv a b)) - (1:Int))) () h SF Z
  refine cK ?_;exact gY (wI .i64 (Int.tdiv a b)) () h SF Z
 intro d g h;unfold pL at h;refine aV<|aA Z<|aD Z<|aL<|aU ?_;cases h;exact kH Z
def uP (U:Nat) (c:Int) (a:Int) (b:Int):Option (Bool):=
 if c=(35:Int)then(some (decide (a=b)))else(if c=(36:Int)then(some (decide (a≠b)))else(if c=(37:Int)then(some (decide (a<b)))else(if c=(38:Int)then(some (decide (a<=b)))else(if c=(39:Int)then(some (decide (b<a)))else(some (decide (b<=a)))))))
theorem aad:aW Tryz.prog 189:=Tryz.call189
theorem Is (U:Nat) {a:Int} {b:Int} {d:Int} (r:Bool) (h:uP U a b d=some r):
  aX Tryz.prog 189 #[vI (a),vI (b),vI (d)] [] (λx:Unit=>vB (r)) (λx l=>l) (λ_ l=>l):=by
 refine aX.of Tryz.func189 Z Tryz.ntmps189 Z λc=>?_;refine aV<|aD Z<|aL<|aJ<|aV<|aA Z<|aL<|aS<|aV<|cP Z<|aD Z<|aL ?_;refine eX h Z (λh=>?_) λh=>?_
 ·refine aV<|aA Z<|aA Z<|cP Z<|aD Z<|aL<|aU<|bK<|aI ?_;cases h;exact kH Z
 refine aV<|cP Z<|aD Z<|aL ?_;refine eX h Z (λh=>?_) λh=>?_
 ·refine aV<|aA Z<|aA Z<|p_ Z<|aD Z<|aL<|aU<|bK<|aI ?_;cases h;exact kH Z
 refine aV<|cP Z<|aD Z<|aL ?_;refine eX h Z (λh=>?_) λh=>?_
 ·refine aV<|aA Z<|aA Z<|cM Z<|aD Z<|aL<|aU<|bK<|aI ?_;cases h;exact kH Z
 refine aV<|cP Z<|aD Z<|aL ?_;refine eX h Z (λh=>?_) λh=>?_
 ·refine aV<|aA Z<|aA Z<|aB (AD Z Z) Z<|aD Z<|aL<|aU<|bK<|aI ?_;cases h;exact kH Z
 refine aV<|cP Z<|aD Z<|aL ?_;refine eX h Z (λh=>?_) λh=>?_
 ·refine aV<|aA Z<|aA Z<|aB (zA Z Z) Z<|aD Z<|aL<|aU<|bK<|aI ?_;cases h;exact kH Z
 refine dL<|mI<|aV<|aA Z<|aA Z<|aB (Do Z Z) Z<|aD Z<|aL<|aU ?_;cases h;exact kH Z
def pJ  (a:Int):Option (Int):=
 some (a)
def pK  (a:Int):Option (Int):=
 some (a)
def yN (U:Nat) (c:Int) (b:Int) (a:Int):Option (Int):=
 if c=(30:Int)then(Option.bind (jK U (wI .i64 (b*a))) λn=>(some (n)))else(if c=(31:Int)then(Option.bind (qT U b a) λo=>(Option.bind (jK U o) λp=>(some (p))))else(if c=(32:Int)then(if a=(0:Int)then(some (0:Int))else(Option.bind (qT U b a) λd=>(Option.bind (jK U (wI .i64 (b - (wI .i64 (a*d))))) λe=>(some (e)))))else(if c=(33:Int)then(Option.bind (jK U (wI .i64 (b+a))) λf=>(some (f)))else(if c=(34:Int)then(Option.bind (jK U (wI .i64 (b - a))) λg=>(some (g)))else(if c=(41:Int)then(if b≠(0:Int)then(Option.bind (iV U (decide (a≠(0:Int)))) λh=>(pJ  (h)))else(Option.bind (iV U false) λi=>(pJ  (i))))else(if c=(42:Int)then(if b≠(0:Int)then(Option.bind (iV U true) λj=>(pK  (j)))else(Option.bind (iV U (decide (a≠(0:Int)))) λk=>(pK  (k))))else(Option.bind (uP U c b a) λl=>(Option.bind (iV U l) λm=>(some (m))))))))))
theorem Z_:aW Tryz.prog 168:=Tryz.call168
theorem KX (U:Nat) {E:Int} {F:Int} {G:Int} (r:Int) (h:yN U E F G=some r):
  aX Tryz.prog 168 #[vI (E),vI (F),vI (G)] [] (λx:Unit=>vI (r)) (λx l=>l) (λ_ l=>l):=by
 refine aX.of Tryz.func168 Z Tryz.ntmps168 Z λc=>?_;refine aV<|aD Z<|aL<|aJ<|aV<|aA Z<|aL<|aS<|aV<|cP Z<|aD Z<|aL ?_;refine eX h Z (λh=>?_) λh=>?_
 ·refine aV<|aA Z<|aA Z<|aB (zL Z Z) Z<|fH h λH K h=>aH (aM.callQ Ek (mK U  H K) Z .nil) Z λY=>aD Z<|aL<|aU<|bK<|aI ?_;cases h;exact kH Z
 refine aV<|cP Z<|aD Z<|aL ?_;refine eX h Z (λh=>?_) λh=>?_
 ·refine aV<|aA Z<|aA Z<|fH h λI L h=>aH (aM.callQ SD (CY U  I L) Z .nil) Z λx8=>fH h λJ s h=>aH (aM.callQ Ek (mK U  J s) Z .nil) Z λM=>aD Z<|aL<|aU<|bK<|aI ?_;cases h;exact kH Z
 refine aV<|cP Z<|aD Z<|aL ?_;refine eX h Z (λh=>?_) λh=>?_
 ·refine aJ<|aV<|aA Z<|cP Z<|aL ?_;refine eX h Z (λh=>?_) λh=>?_
  ·refine aV<|aD Z<|aL<|aU<|aI<|bK<|aI ?_;cases h;exact kH Z
  refine cK<|aV<|aA Z<|aA Z<|aA Z<|aA Z<|fH h λk t h=>aH (aM.callQ SD (CY U  k t) Z .nil) Z λN=>aB (zL Z Z) Z<|aB (lA Z Z) Z<|fH h λm u h=>aH (aM.callQ Ek (mK U  m u) Z .nil) Z λO=>aD Z<|aL<|aU<|bK<|aI ?_;cases h;exact kH Z
 refine aV<|cP Z<|aD Z<|aL ?_;refine eX h Z (λh=>?_) λh=>?_
 ·refine aV<|aA Z<|aA Z<|cJ Z<|fH h λn v h=>aH (aM.callQ Ek (mK U  n v) Z .nil) Z λP=>aD Z<|aL<|aU<|bK<|aI ?_;cases h;exact kH Z
 refine aV<|cP Z<|aD Z<|aL ?_;refine eX h Z (λh=>?_) λh=>?_
 ·refine aV<|aA Z<|aA Z<|aB (lA Z Z) Z<|fH h λo w h=>aH (aM.callQ Ek (mK U  o w) Z .nil) Z λQ=>aD Z<|aL<|aU<|bK<|aI ?_;cases h;exact kH Z
 refine aV<|cP Z<|aD Z<|aL ?_;refine eX h Z (λh=>?_) λh=>?_
 ·refine aJ<|dR (λa=>pJ  a=some r) (λa d=>[(6,vI (a))]) (λa d=>[]) ?_ ?_
  ·refine aO<|aA Z<|p_ Z<|aA Z ?_;refine Dg h Z (λ_ h=>?_) λ_ h=>?_
   ·refine cO Z<|aN Z (Dq Z Z) Z<|dV Z<|fH h λf y h=>aH (aM.callQ yJ (kZ U  f y) Z .nil) Z λR=>aD Z<|aL ?_;exact gY (f) () h SF Z
   refine aG Z<|aG Z<|fK Z<|fH h λg z h=>aH (aM.callQ yJ (kZ U  g z) Z .nil) Z λS=>aD Z<|aL ?_;exact gY (g) () h SF Z
  intro a d h;unfold pJ at h;refine aU<|bK<|aI ?_;cases h;exact kH Z
 refine aV<|cP Z<|aD Z<|aL ?_;refine eX h Z (λh=>?_) λh=>?_
 ·refine aJ<|dR (λb=>pK  b=some r) (λb e=>[(6,vI (b))]) (λb e=>[]) ?_ ?_
  ·refine aO<|aA Z<|p_ Z<|aA Z ?_;refine Dg h Z (λ_ h=>?_) λ_ h=>?_
   ·refine aG Z<|aG Z<|dV Z<|fH h λi A h=>aH (aM.callQ yJ (kZ U  i A) Z .nil) Z λT=>aD Z<|aL ?_;exact gY (i) () h SF Z
   refine cO Z<|aN Z (Dq Z Z) Z<|fK Z<|fH h λj B h=>aH (aM.callQ yJ (kZ U  j B) Z .nil) Z λV=>aD Z<|aL ?_;exact gY (j) () h SF Z
  intro b e h;unfold pK at h;refine aU<|bK<|aI ?_;cases h;exact kH Z
 refine dL<|mI<|aV<|aA Z<|aA Z<|aA Z<|fH h λp C h=>aH (aM.callQ aad (Is U  p C) Z .nil) Z λW=>fH h λq D h=>aH (aM.callQ yJ (kZ U  q D) Z .nil) Z λX=>aD Z<|aL<|aU ?_;cases h;exact kH Z
def yK  (a:Int):Option (Int):=
 some (a)
def tU (c:eZ) (b:iH->Option (Int)) (a:Int):Option (Int):=
 b (a,(wI .i64 (c.2+(1:Int))))
def qY (c:aR) (a:eZ) (b:iH->Option (Int)):Option (Int):=
 if a.2<(List.length c:Int)then(ck (0<=a.2∧a.2<(List.length c:Int)) (if(at' c a.2)≠(0:Int)then(tU a b (wI .i64 (a.1+(1:Int))))else(tU a b (a.1))))else(yK  (a.1))
def qG (U:Nat) (a:aR):Option (Int):=
 bJ (qY a) U ((0:Int),(0:Int))
theorem MC:aW Tryz.prog 195:=Tryz.call195
theorem CN (U:Nat) {d:aR} (i:Value) (r:Int) (h:qG U d=some r):
  aX Tryz.prog 195 #[i] [Sl bN i d] (λx:Unit=>vI (r)) (λx l=>l) (λ_ l=>l):=by
 refine aX.of Tryz.func195 Z Tryz.ntmps195 Z λc=>?_;unfold qG at h;refine aV<|aD Z<|aL<|aV<|aD Z<|aL<|aJ<|dR (λe=>yK  e=some r) (λe j=>[(3,vI (e))]) (λe j=>[]) ?_ ?_
 ·refine aV<|aA Z<|kB (aE.fact 0 Z) Z<|aA Z<|aL<|aS<|dU (qY d) (λb k=>[(3,vI (b.1)),(6,i),(7,vI (List.length d:Int)),(8,vI (b.2))]) (λb k=>[]) ((0:Int),(0:Int)) () h SF (a_.refl _) ?_;intro m b k h;refine aV<|cM Z<|aL<|aJ ?_;refine eX h Z (λh=>?_) λh=>?_
  ·refine cK<|aJ<|dR (λa=>tU b (bJ (qY d) m) a=some r) (λa f=>[(3,vI (a)),(6,i),(7,vI (List.length d:Int)),(8,vI (b.2))]) (λa f=>[]) ?_ ?_
   ·refine aS<|aV<|cX h λg h=>aB (aY Z Z (aE.fact 0 Z) Z Z g) Z<|aB (bV Z (aE.fact 0 Z) Z Z Z dA g) Z<|aD Z<|aL<|aV<|aA Z<|p_ Z<|aL ?_;refine eX h Z (λh=>?_) λh=>?_
    ·refine aO<|aA Z<|cJ Z<|aD Z<|eJ<|mI ?_;exact gY (wI .i64 (b.1+(1:Int))) () h SF Z
    refine dL<|mI ?_;exact gY (b.1) () h SF Z
   intro a f h;unfold tU at h;refine aO<|cJ Z<|aA Z<|aL ?_;exact xY (a,(wI .i64 (b.2+(1:Int)))) () h SF Z
  refine fC ?_;exact gY (b.1) () h SF Z
 intro e j h;unfold yK at h;refine aV<|aA Z<|aD Z<|aL<|aU ?_;cases h;exact kH Z
def pB  (a:Unit):Option (Int):=
 some (-1:Int)
def fU (c:aR) (e:Int->Option Bool) (a:Int) (b:(Int)->Option (Int)):Option (Int):=
 if a<(List.length c:Int)then(ck (0<=a∧a<(List.length c:Int)) (Option.bind (e (at' c a)) λd=>(if d=true then(some (a))else(b (wI .i64 (a+(1:Int)))))))else(pB  (()))
def m_ (U:Nat) (b:aR) (a:Int->Option Bool):Option (Int):=
 bJ (fU b a) U (0:Int)
theorem aae:aW Tryz.prog 196:=Tryz.call196
theorem FD (U:Nat) {b:aR} {o:Int->Option Bool} (k:FuncId) (a:fV) (j:List aZ) (e:aW Tryz.prog k) (f:∀(t:Int) (r:Bool),o t=some r->aX Tryz.prog k ([vI (t)]++a).toArray j (λ_:Unit=>vB (r)) (λ_ l=>l) (λ_ l=>l)) (i:Value) (r:Int) (h:m_ U b o=some r):
  aX Tryz.prog 196 #[i,Value.func (.func k) #[] (a).toArray] ([Sl bN i b]++j) (λx:Unit=>vI (r)) (λx l=>l) (λ_ l=>l):=by
 refine aX.of Tryz.func196 Z Tryz.ntmps196 Z λc=>?_;unfold m_ at h;refine aV<|aD Z<|aL<|aJ<|Ca (B:=Unit) (λg=>pB  g=some r) (λg m=>[]) (λg m=>[]) (λg m=>([Sl bN i b]++j)) ?_ ?_
 ·refine aV<|aA Z<|kB (aE.fact 0 Z) Z<|aA Z<|aL<|aS<|FK (B:=Unit) (fU b o) (λd n=>[(0,i),(1,Value.func (.func k) #[] (a).toArray),(7,vI (List.length b:Int)),(8,vI (d))]) (λd n=>[]) (λd n=>([Sl bN i b]++j)) (0:Int) () h SF (a_.refl _) (aF.refl _ _) ?_;intro v d n h;refine aV<|cM Z<|aL<|aJ ?_;refine eX h Z (λh=>?_) λh=>?_
  ·refine cK<|aJ<|aS<|aV<|aA Z<|aD Z<|aL<|aV<|aA Z<|aA Z<|aA Z<|cX h λs h=>aB (aY Z Z (aE.fact 0 Z) Z Z s) Z<|aB (bV Z (aE.fact 0 Z) Z Z Z dA s) Z<|fH h λp q h=>aH (vH (vs:=[vI (at' b d)]) (cs:=a) e Z (f (at' b d) p q) Z (aF.tail _) (λ_ _=>rfl)) Z λu=>aL ?_;refine Ai h Z (λ_ h=>?_) λ_ h=>?_
   ·refine aV<|aA Z<|aD Z<|aL<|aU<|bK<|aI<|aI<|bK<|aI ?_;cases h;exact kH Z
   refine dL<|mI<|aO<|cJ Z<|aA Z<|aL ?_;exact xY (wI .i64 (d+(1:Int))) () h SF Z
  refine fC ?_;exact gY () (()) h SF Z
 intro g m h;unfold pB at h;refine aV<|aD Z<|aL<|aU ?_;cases h;exact kH Z
def oM (U:Nat) (a:Int):Option (Bool):=
 some (decide (a≠(0:Int)))
theorem aaf:aW Tryz.prog 197:=Tryz.call197
theorem KY (U:Nat) {a:Int} (r:Bool) (h:oM U a=some r):
  aX Tryz.prog 197 #[vI (a)] [] (λx:Unit=>vB (r)) (λx l=>l) (λ_ l=>l):=by
 refine aX.of Tryz.func197 Z Tryz.ntmps197 Z λc=>?_;unfold oM at h;refine aV<|aD Z<|aL<|aV<|aA Z<|p_ Z<|aD Z<|aL<|aU ?_;cases h;exact kH Z
def tG  (a:eZ):Option iH:=
 some (a.1,a.2)
def oW (c:Int×Int×Int) (b:(Int×Int×Int)->Option iH) (a:eZ):Option iH:=
 b (a.1,a.2,(wI .i64 (c.2.2+(1:Int))))
def tH (c:aR) (a:Int×Int×Int) (b:(Int×Int×Int)->Option iH):Option iH:=
 if a.2.2<(List.length c:Int)then(ck (0<=a.2.2∧a.2.2<(List.length c:Int)) (if a.1<(at' c a.2.2)then(oW a b ((at' c a.2.2),a.1))else(oW a b (a.1,(max a.2.1 (at' c a.2.2))))))else(tG  (a.1,a.2.1))
def qH (U:Nat) (a:aR):Option iH:=
 bJ (tH a) U ((-1073741824:Int),(-1073741824:Int),(0:Int))
theorem SE:aW Tryz.prog 198:=Tryz.call198
theorem AX (U:Nat) {d:aR} (j:Value) (r:eZ) (h:qH U d=some r):
  aX Tryz.prog 198 #[j] [Sl bN j d] (λx:Unit=>Value.tuple #[vI (r.1),vI (r.2)]) (λx l=>l) (λ_ l=>l):=by
 refine aX.of Tryz.func198 Z Tryz.ntmps198 Z λc=>?_;unfold qH at h;refine aV<|aD Z<|aD Z<|aL<|aV<|aD Z<|aD Z<|aL<|aJ<|dR (λe=>tG  e=some r) (λe m=>[(2,vI (e.1)),(3,vI (e.2))]) (λe m=>[]) ?_ ?_
 ·refine aV<|aA Z<|kB (aE.fact 0 Z) Z<|aA Z<|aL<|aS<|dU (tH d) (λb f=>[(2,vI (b.1)),(3,vI (b.2.1)),(6,j),(7,vI (List.length d:Int)),(8,vI (b.2.2))]) (λb f=>[]) ((-1073741824:Int),(-1073741824:Int),(0:Int)) () h SF (a_.refl _) ?_;intro k b f h;refine aV<|cM Z<|aL<|aJ ?_;refine eX h Z (λh=>?_) λh=>?_
  ·refine cK<|aJ<|dR (λa=>oW b (bJ (tH d) k) a=some r) (λa g=>[(2,vI (a.1)),(3,vI (a.2)),(6,j),(7,vI (List.length d:Int)),(8,vI (b.2.2))]) (λa g=>[]) ?_ ?_
   ·refine aS<|aV<|cX h λi h=>aB (aY Z Z (aE.fact 0 Z) Z Z i) Z<|aB (bV Z (aE.fact 0 Z) Z Z Z dA i) Z<|aD Z<|aL<|aV<|aA Z<|aA Z<|aB (zA Z Z) Z<|aL ?_;refine eX h Z (λh=>?_) λh=>?_
    ·refine aO<|aA Z<|aA Z<|aD Z<|aD Z<|eJ<|mI ?_;exact gY ((at' d b.2.2),b.1) () h SF Z
    refine aO<|aA Z<|aA Z<|aB (Lh Z Z) Z<|aD Z<|eJ<|mI ?_;exact gY (b.1,(max b.2.1 (at' d b.2.2))) () h SF Z
   intro a g h;unfold oW at h;refine aO<|cJ Z<|aA Z<|aL ?_;exact xY (a.1,a.2,(wI .i64 (b.2.2+(1:Int)))) () h SF Z
  refine fC ?_;exact gY (b.1,b.2.1) () h SF Z
 intro e m h;unfold tG at h;refine aV<|aA Z<|aA Z<|aD Z<|aD Z<|aL<|aU ?_;cases h;exact nJ () Z Z (RV.tmp Z) (RV.tmp Z) (a_.refl _) aF.nil
def uU  (a:Unit):Option (Int):=
 some (-1:Int)
def kC (c:aR) (d:Int) (a:Int) (b:(Int)->Option (Int)):Option (Int):=
 if a<(List.length c:Int)then(ck (0<=a∧a<(List.length c:Int)) (if d=(at' c a)then(some (a))else(b (wI .i64 (a+(1:Int))))))else(uU  (()))
def pR (U:Nat) (a:aR) (b:Int):Option (Int):=
 bJ (kC a b) U (0:Int)
theorem aai:aW Tryz.prog 207:=Tryz.call207
theorem KC (U:Nat) {d:aR} {e:Int} (f:Value) (r:Int) (h:pR U d e=some r):
  aX Tryz.prog 207 #[f,vI (e)] [Sl bN f d] (λx:Unit=>vI (r)) (λx l=>l) (λ_ l=>l):=by
 refine aX.of Tryz.func207 Z Tryz.ntmps207 Z λc=>?_;unfold pR at h;refine aV<|aD Z<|aL<|aJ<|dR (λa=>uU  a=some r) (λa g=>[]) (λa g=>[]) ?_ ?_
 ·refine aV<|aA Z<|kB (aE.fact 0 Z) Z<|aA Z<|aL<|aS<|dU (kC d e) (λb i=>[(0,f),(1,vI (e)),(7,vI (List.length d:Int)),(8,vI (b))]) (λb i=>[]) (0:Int) () h SF (a_.refl _) ?_;intro k b i h;refine aV<|cM Z<|aL<|aJ ?_;refine eX h Z (λh=>?_) λh=>?_
  ·refine cK<|aJ<|aS<|aV<|aA Z<|aD Z<|aL<|aV<|aA Z<|aA Z<|aA Z<|cX h λj h=>aB (aY Z Z (aE.fact 0 Z) Z Z j) Z<|aB (bV Z (aE.fact 0 Z) Z Z Z dA j) Z<|cP Z<|aL ?_;refine eX h Z (λh=>?_) λh=>?_
   ·refine aV<|aA Z<|aD Z<|aL<|aU<|bK<|aI<|aI<|bK<|aI ?_;cases h;exact kH Z
   refine dL<|mI<|aO<|cJ Z<|aA Z<|aL ?_;exact xY (wI .i64 (b+(1:Int))) () h SF Z
  refine fC ?_;exact gY () (()) h SF Z
 intro a g h;unfold uU at h;refine aV<|aD Z<|aL<|aU ?_;cases h;exact kH Z
def rI (U:Nat) (a:aR) (b:Int):Option (Bool):=
 Option.bind (pR U a b) λc=>(some (decide ((0:Int)<=c)))
theorem aah:aW Tryz.prog 203:=Tryz.call203
theorem GK (U:Nat) {b:aR} {d:Int} (a:Value) (r:Bool) (h:rI U b d=some r):
  aX Tryz.prog 203 #[a,vI (d)] [Sl bN a b] (λx:Unit=>vB (r)) (λx l=>l) (λ_ l=>l):=by
 refine aX.of Tryz.func203 Z Tryz.ntmps203 Z λc=>?_;refine aV<|aD Z<|aL<|aV<|aA Z<|aA Z<|fH h λe f h=>aH (aM.callQ aai (KC U a e f) Z (pO [0] Z)) Z λg=>aB (Do Z Z) Z<|aD Z<|aL<|aU ?_;cases h;exact kH Z
def Bl  (a:Int):Option (Int):=
 some (a)
def zB (U:Nat) (c:aR) (a:Int) (b:(Int)->Option (Int)):Option (Int):=
 Option.bind (rI U c a) λd=>(if d=true then(b (wI .i64 (a+(1:Int))))else(Bl  (a)))
def AM (U:Nat) (a:aR):Option (Int):=
 bJ (zB U a) U (0:Int)
theorem aag:aW Tryz.prog 199:=Tryz.call199
theorem RX (U:Nat) {e:aR} (d:Value) (r:Int) (h:AM U e=some r):
  aX Tryz.prog 199 #[d] [Sl bN d e] (λx:Unit=>vI (r)) (λx l=>l) (λ_ l=>l):=by
 refine aX.of Tryz.func199 Z Tryz.ntmps199 Z λc=>?_;unfold AM at h;refine aV<|aD Z<|aL<|aV<|aD Z<|aL<|aJ<|dR (λa=>Bl  a=some r) (λa g=>[(3,vI (a))]) (λa g=>[]) ?_ ?_
 ·refine aS<|dU (zB U e) (λb i=>[(0,d),(3,vI (b))]) (λb i=>[]) (0:Int) () h SF (a_.refl _) ?_;intro m b i h;refine aJ<|aV<|aA Z<|aA Z<|fH h λj f h=>aH (aM.callQ aah (GK U d j f) Z (pO [0] Z)) Z λk=>aL ?_;refine Ai h Z (λ_ h=>?_) λ_ h=>?_
  ·refine cK<|aS<|aO<|aA Z<|cJ Z<|aD Z<|eJ<|mI ?_;exact xY (wI .i64 (b+(1:Int))) () h SF Z
  refine fC ?_;exact gY (b) () h SF Z
 intro a g h;unfold Bl at h;refine aV<|aA Z<|aD Z<|aL<|aU ?_;cases h;exact kH Z
def Am  (a:Int):Option (Int):=
 some (a)
def sP (c:aR) (a:eZ) (b:iH->Option (Int)):Option (Int):=
 if a.2<(List.length c:Int)then(ck (0<=a.2∧a.2<(List.length c:Int)) (b ((min a.1 (at' c a.2)),(wI .i64 (a.2+(1:Int))))))else(Am  (a.1))
def Cn (U:Nat) (a:Int):Option (Int):=
 Option.bind (jK U a) λb=>(some (b))
def sQ (U:Nat) (c:aR) (a:eZ) (b:iH->Option (Int)):Option (Int):=
 if a.2<(List.length c:Int)then(ck (0<=a.2∧a.2<(List.length c:Int)) (b ((wI .i64 (a.1+(at' c a.2))),(wI .i64 (a.2+(1:Int))))))else(Cn U (a.1))
def Bp (U:Nat) (b:Int) (a:aR):Option (Int):=
 if b=(20:Int)then(Option.bind (qG U a) λi=>(Option.bind (iV U (decide (i=(List.length a:Int)))) λj=>(some (j))))else(if b=(21:Int)then(Option.bind (qG U a) λk=>(Option.bind (iV U (decide ((0:Int)<k))) λc=>(some (c))))else(if b=(22:Int)then(Option.bind (qG U a) λd=>(some (d)))else(if b=(23:Int)then(Option.bind (m_ U a (λl=>oM U l)) λe=>(some (e)))else(if b=(24:Int)then(bJ (sP a) U ((1073741824:Int),(0:Int)))else(if b=(25:Int)then(Option.bind (qH U a) λf=>(some (f.1)))else(if b=(26:Int)then(bJ (sQ U a) U ((0:Int),(0:Int)))else(if b=(27:Int)then(Option.bind (AM U a) λg=>(some (g)))else(if b=(28:Int)then(Option.bind (qH U a) λh=>(some (h.2)))else(if(List.length a:Int)=(0:Int)then(some (0:Int))else(ck (0<=(0:Int)∧(0:Int)<(List.length a:Int)) (some (at' a (0:Int)))))))))))))
theorem aac:aW Tryz.prog 186:=Tryz.call186
theorem PM (U:Nat) {H:Int} {g:aR} (f:Value) (r:Int) (h:Bp U H g=some r):
  aX Tryz.prog 186 #[vI (H),f] [Sl bN f g] (λx:Unit=>vI (r)) (λx l=>l) (λ_ l=>l):=by
 refine aX.of Tryz.func186 Z Tryz.ntmps186 Z λc=>?_;refine aV<|aD Z<|aL<|aJ<|aV<|aA Z<|aL<|aS<|aV<|cP Z<|aD Z<|aL ?_;refine eX h Z (λh=>?_) λh=>?_
 ·refine aV<|aA Z<|fH h λK N h=>aH (aM.callQ MC (CN U f K N) Z (pO [0] Z)) Z λY=>aA Z<|kB (aE.fact 0 Z) Z<|cP Z<|fH h λL O h=>aH (aM.callQ yJ (kZ U  L O) Z .nil) Z λx7=>aD Z<|aL<|aU<|bK<|aI ?_;cases h;exact kH Z
 refine aV<|cP Z<|aD Z<|aL ?_;refine eX h Z (λh=>?_) λh=>?_
 ·refine aV<|aA Z<|fH h λM z h=>aH (aM.callQ MC (CN U f M z) Z (pO [0] Z)) Z λP=>aB (zA Z Z) Z<|fH h λq A h=>aH (aM.callQ yJ (kZ U  q A) Z .nil) Z λQ=>aD Z<|aL<|aU<|bK<|aI ?_;cases h;exact kH Z
 refine aV<|cP Z<|aD Z<|aL ?_;refine eX h Z (λh=>?_) λh=>?_
 ·refine aV<|aA Z<|fH h λs B h=>aH (aM.callQ MC (CN U f s B) Z (pO [0] Z)) Z λR=>aD Z<|aL<|aU<|bK<|aI ?_;cases h;exact kH Z
 refine aV<|cP Z<|aD Z<|aL ?_;refine eX h Z (λh=>?_) λh=>?_
 ·refine aV<|aA Z<|fH h λt C h=>aH (aM.callQ aae (FD U 197 [] [] aaf (λy0 r h=>KY U  r h) f t C) Z (pO [0] Z)) Z λS=>aD Z<|aL<|aU<|bK<|aI ?_;cases h;exact kH Z
 refine aV<|cP Z<|aD Z<|aL ?_;refine eX h Z (λh=>?_) λh=>?_
 ·refine aV<|aD Z<|aL<|aJ<|dR (λd=>Am  d=some r) (λd i=>[(5,vI (d))]) (λd i=>[]) ?_ ?_
  ·refine aV<|aA Z<|kB (aE.fact 0 Z) Z<|aA Z<|aL<|aS<|dU (sP g) (λa j=>[(5,vI (a.1)),(40,f),(41,vI (List.length g:Int)),(42,vI (a.2))]) (λa j=>[]) ((1073741824:Int),(0:Int)) () h SF (a_.refl _) ?_;intro I a j h;refine aV<|cM Z<|aL<|aJ ?_;refine eX h Z (λh=>?_) λh=>?_
   ·refine cK<|aJ<|aS<|aV<|cX h λn h=>aB (aY Z Z (aE.fact 0 Z) Z Z n) Z<|aB (bV Z (aE.fact 0 Z) Z Z Z dA n) Z<|aD Z<|aL<|aO<|aA Z<|aA Z<|aB (abH Z Z) Z<|aD Z<|eJ<|mI<|aO<|cJ Z<|aA Z<|aL ?_;exact xY ((min a.1 (at' g a.2)),(wI .i64 (a.2+(1:Int)))) () h SF Z
   refine fC ?_;exact gY (a.1) () h SF Z
  intro d i h;unfold Am at h;refine aV<|aA Z<|aD Z<|aL<|aU<|bK<|aI ?_;cases h;exact kH Z
 refine aV<|cP Z<|aD Z<|aL ?_;refine eX h Z (λh=>?_) λh=>?_
 ·refine aV<|aA Z<|fH h λu D h=>aH (aM.callQ SE (AX U f u D) Z (pO [0] Z)) Z λT=>aA Z<|iW Z<|iW Z<|aD Z<|aD Z<|aL<|aV<|aA Z<|aD Z<|aL<|aU<|bK<|aI ?_;cases h;exact kH Z
 refine aV<|cP Z<|aD Z<|aL ?_;refine eX h Z (λh=>?_) λh=>?_
 ·refine aV<|aD Z<|aL<|aJ<|dR (λe=>Cn U e=some r) (λe k=>[(10,vI (e))]) (λe k=>[]) ?_ ?_
  ·refine aV<|aA Z<|kB (aE.fact 0 Z) Z<|aA Z<|aL<|aS<|dU (sQ U g) (λb m=>[(10,vI (b.1)),(61,f),(62,vI (List.length g:Int)),(63,vI (b.2))]) (λb m=>[]) ((0:Int),(0:Int)) () h SF (a_.refl _) ?_;intro J b m h;refine aV<|cM Z<|aL<|aJ ?_;refine eX h Z (λh=>?_) λh=>?_
   ·refine cK<|aJ<|aS<|aV<|cX h λo h=>aB (aY Z Z (aE.fact 0 Z) Z Z o) Z<|aB (bV Z (aE.fact 0 Z) Z Z Z dA o) Z<|aD Z<|aL<|aO<|aA Z<|aA Z<|cJ Z<|aD Z<|eJ<|mI<|aO<|cJ Z<|aA Z<|aL ?_;exact xY ((wI .i64 (b.1+(at' g b.2))),(wI .i64 (b.2+(1:Int)))) () h SF Z
   refine fC ?_;exact gY (b.1) () h SF Z
  intro e k h;refine aV<|aA Z<|fH h λv E h=>aH (aM.callQ Ek (mK U  v E) Z .nil) Z λV=>aD Z<|aL<|aU<|bK<|aI ?_;cases h;exact kH Z
 refine aV<|cP Z<|aD Z<|aL ?_;refine eX h Z (λh=>?_) λh=>?_
 ·refine aV<|aA Z<|fH h λw F h=>aH (aM.callQ aag (RX U f w F) Z (pO [0] Z)) Z λW=>aD Z<|aL<|aU<|bK<|aI ?_;cases h;exact kH Z
 refine aV<|cP Z<|aD Z<|aL ?_;refine eX h Z (λh=>?_) λh=>?_
 ·refine aV<|aA Z<|fH h λy G h=>aH (aM.callQ SE (AX U f y G) Z (pO [0] Z)) Z λX=>aA Z<|iW Z<|iW Z<|aD Z<|aD Z<|aL<|aV<|aA Z<|aD Z<|aL<|aU<|bK<|aI ?_;cases h;exact kH Z
 refine dL<|mI<|aJ<|aV<|aA Z<|kB (aE.fact 0 Z) Z<|cP Z<|aL ?_;refine eX h Z (λh=>?_) λh=>?_
 ·refine aV<|aD Z<|aL<|aU<|aI ?_;cases h;exact kH Z
 refine cK<|aV<|aA Z<|cX h λp h=>aB (aY Z Z (aE.fact 0 Z) Z Z p) Z<|aB (bV Z (aE.fact 0 Z) Z Z Z dA p) Z<|aD Z<|aL<|aU ?_;cases h;exact kH Z
def nK  (a:eZ):Option iH:=
 some (a.1,a.2)
def kI (U:Nat) (a:NE) (e:Int) (b:nS) (c:Int):Option iH:=
 ck (0<=(List.length (at' a.1.2.1.2 a.2.2.1):Int)∧(List.length (at' a.1.2.1.2 a.2.2.1):Int)<=((24:Nat):Int)∧(List.length (at' a.1.2.1.2 a.2.2.1):Int)<=(List.length b.2:Int)) (Option.bind (Bp U ((at' a.2.2.2 e).1) (List.take (Int.toNat (List.length (at' a.1.2.1.2 a.2.2.1):Int)) b.2)) λd=>(nK  (d,c)))
def rB (U:Nat) (b:NE) (c:Int) (a:nS):Option iH:=
 if(List.length (at' b.1.2.1.2 b.2.2.1):Int)=(0:Int)then(Option.bind (Cu U b.2.2.2 c) λd=>(kI U b c a (d)))else(kI U b c a (a.1))
def kJ (U:Nat) (b:NE) (e:Int) (f:abr->Int->Int->Option iH) (a:Int×Int×aR) (c:(Int×Int×aR)->Option iH):Option iH:=
 if a.2.1<(List.length (at' b.1.2.1.2 b.2.2.1):Int)then(Option.bind (f ((((((b.1.1.1,b.1.1.2.1,b.1.1.2.2)),((b.1.2.1.1,b.1.2.1.2)),b.1.2.2.1,b.1.2.2.2)),b.2.1,b.2.2.1,b.2.2.2)) (wI .i64 (e+(1:Int))) a.2.1) λd=>(ck ((0<=a.2.1∧a.2.1<((24:Nat):Int))∧List.length a.2.2=24) (c (d.2,(wI .i64 (a.2.1+(1:Int))),(List.set a.2.2 (Int.toNat a.2.1) d.1)))))else(rB U b e (a.1,a.2.2))
def cV (e:abr->Int->Int->Option iH) (U:Nat) (a:NE) (b:Int) (c:Int):Option iH:=
 ck (0<=b∧b<(List.length a.2.2.2:Int)) (if((at' a.2.2.2 b).1)<=(17:Int)then(Option.bind (mA U ((((((a.1.1.1,a.1.1.2.1,a.1.1.2.2)),((a.1.2.1.1,a.1.2.1.2)),a.1.2.2.1,a.1.2.2.2)),a.2.1,a.2.2.1,a.2.2.2)) ((((at' a.2.2.2 b).1),((at' a.2.2.2 b).2))) c) λm=>(some (m,(wI .i64 (b+(1:Int))))))else(if((at' a.2.2.2 b).1)<=(19:Int)then(Option.bind (e ((((((a.1.1.1,a.1.1.2.1,a.1.1.2.2)),((a.1.2.1.1,a.1.2.1.2)),a.1.2.2.1,a.1.2.2.2)),a.2.1,a.2.2.1,a.2.2.2)) (wI .i64 (b+(1:Int))) c) λl=>(Option.bind (Ao U ((at' a.2.2.2 b).1) l.1) λj=>(some (j,l.2))))else(if((at' a.2.2.2 b).1)<=(29:Int)then(ck (0<=a.2.2.1∧a.2.2.1<(List.length a.1.2.1.2:Int)) (bJ (kJ U a b e) U ((0:Int),(0:Int),(List.replicate 24 (0:Int)))))else(if((at' a.2.2.2 b).1)<=(42:Int)then(Option.bind (e ((((((a.1.1.1,a.1.1.2.1,a.1.1.2.2)),((a.1.2.1.1,a.1.2.1.2)),a.1.2.2.1,a.1.2.2.2)),a.2.1,a.2.2.1,a.2.2.2)) (wI .i64 (b+(1:Int))) c) λf=>(Option.bind (e ((((((a.1.1.1,a.1.1.2.1,a.1.1.2.2)),((a.1.2.1.1,a.1.2.1.2)),a.1.2.2.1,a.1.2.2.2)),a.2.1,a.2.2.1,a.2.2.2)) f.2 c) λg=>(Option.bind (yN U ((at' a.2.2.2 b).1) f.1 g.1) λk=>(some (k,g.2)))))else(Option.bind (e ((((((a.1.1.1,a.1.1.2.1,a.1.1.2.2)),((a.1.2.1.1,a.1.2.1.2)),a.1.2.2.1,a.1.2.2.2)),a.2.1,a.2.2.1,a.2.2.2)) (wI .i64 (b+(1:Int))) c) λh=>(Option.bind (e ((((((a.1.1.1,a.1.1.2.1,a.1.1.2.2)),((a.1.2.1.1,a.1.2.1.2)),a.1.2.2.1,a.1.2.2.2)),a.2.1,a.2.2.1,a.2.2.2)) h.2 c) λi=>(Option.bind (e ((((((a.1.1.1,a.1.1.2.1,a.1.1.2.2)),((a.1.2.1.1,a.1.2.1.2)),a.1.2.2.1,a.1.2.2.2)),a.2.1,a.2.2.1,a.2.2.2)) i.2 c) λd=>(if h.1≠(0:Int)then(some (i.1,d.2))else(some (d.1,d.2))))))))))
def bR:Nat->abr->Int->Int->Option iH
 |0,_,_,_=>none
 |U+1,p0,p1,p2=>cV (bR U) U p0 p1 p2
theorem Bj:aW Tryz.prog 151:=Tryz.call151
theorem CM (X:abr->Int->Int->Option iH) (U:Nat) (p:∀{a:NE} {m:Int} {M:Int} (b:Nat)  (f:Nat)  (q:Value)  (s:Value)  (t:Value)  (u:Value)  (C:lX)  (v:Value)  (D:sH)  (w:Value)  (g:sH)  (d:Value) (r:eZ),X a m M=some r->aX Tryz.prog 151 #[vP b,vI (m),vI (M)] [bU b [vP f,w,vI (a.2.2.1),d] 207,bU f [vS (a.1.1.1),q,s,t,u,vI (a.1.2.2.1),v] 137,Sl aT q a.1.1.2.1,Sl aK s a.1.1.2.2,Sl bN t a.1.2.1.1,S2 bD u C a.1.2.1.2,S2 bN v D a.1.2.2.2,S2 bN w g a.2.1,Sl bD d a.2.2.2] (λx:Unit=>Value.tuple #[vI (r.1),vI (r.2)]) (λx l=>l) (λ_ l=>l)) {a:NE} {m:Int} {M:Int} (b:Nat)  (f:Nat)  (q:Value)  (s:Value)  (t:Value)  (u:Value)  (C:lX)  (v:Value)  (D:sH)  (w:Value)  (g:sH)  (d:Value) (r:eZ) (h:cV X U a m M=some r):
  aX Tryz.prog 151 #[vP b,vI (m),vI (M)] [bU b [vP f,w,vI (a.2.2.1),d] 207,bU f [vS (a.1.1.1),q,s,t,u,vI (a.1.2.2.1),v] 137,Sl aT q a.1.1.2.1,Sl aK s a.1.1.2.2,Sl bN t a.1.2.1.1,S2 bD u C a.1.2.1.2,S2 bN v D a.1.2.2.2,S2 bN w g a.2.1,Sl bD d a.2.2.2] (λx:Unit=>Value.tuple #[vI (r.1),vI (r.2)]) (λx l=>l) (λ_ l=>l):=by
 refine aX.of Tryz.func151 Z Tryz.ntmps151 Z λc=>?_;refine aV<|aD Z<|aD Z<|aL<|aV<|aA Z<|aB (bX Z) Z<|bS Z<|aB (dH Z (aE.fact 0 Z) Z Z Z) Z<|aA Z<|cX h λj1 h=>aB (aY Z Z (aE.fact 8 Z) Z Z j1) Z<|aB (iZ (cs:=[vI ((at' a.2.2.2 m).1),vI ((at' a.2.2.2 m).2)]) Z (aE.fact 8 Z) bQ Z Z Z Z j1) Z<|aH (aM.alloc (cs:=Vd) Z Z) Z λb2=>bT 0 (vs:=[vI ((at' a.2.2.2 m).1),vI ((at' a.2.2.2 m).2)]) Z Z Z Z Z Z<|aL<|aJ<|aS<|aV<|bS Z<|dC 0 Z<|aB (AD Z Z) Z<|aD Z<|aL ?_;refine eX h Z (λh=>?_) λh=>?_
 ·refine aV<|aA Z<|eT 0 Z<|aA Z<|fH h λr4 w5 h=>aH (aM.callQ ZY (ED U b f q s t u C v D w g d r4 w5) Z (pO [0,1,2,3,4,5,6,7,8] Z)) Z λx6=>aA Z<|cJ Z<|aD Z<|aD Z<|aL<|aU<|bK<|aI ?_;cases h;exact nJ () Z Z (RV.tmp Z) (RV.tmp Z) .nil aF.nil
 refine aV<|bS Z<|dC 0 Z<|aB (AD Z Z) Z<|aD Z<|aL ?_;refine eX h Z (λh=>?_) λh=>?_
 ·refine aV<|aA Z<|aA Z<|cJ Z<|aA Z<|fH h λr8 w9 h=>aH (aM.callQ Bj (p b f q s t u C v D w g d r8 w9) Z (pO [0,1,2,3,4,5,6,7,8] Z)) Z λak=>aA Z<|iW Z<|iW Z<|aD Z<|aD Z<|aL<|aV<|bS Z<|dC 0 Z<|aA Z<|fH h λP Y h=>aH (aM.callQ ZZ (Nu U  P Y) Z .nil) Z λal=>aA Z<|aD Z<|aD Z<|aL<|aU<|bK<|aI ?_;cases h;exact nJ () Z Z (RV.tmp Z) (RV.tmp Z) .nil aF.nil
 refine aV<|bS Z<|dC 0 Z<|aB (AD Z Z) Z<|aD Z<|aL ?_;refine eX h Z (λh=>?_) λh=>?_
 ·refine aV<|aA Z<|bS Z<|dC 0 Z<|aA Z<|By (A:=eZ) (B:=Unit) (vs:=[vP b,vI ((at' a.2.2.2 m).1),vI (m)]) (λn=>nK  n=some r) (λn G=>Value.tuple #[vI (n.1),vI (n.2)]) (λn G=>[]) (λn G=>[bU b [vP f,w,vI (a.2.2.1),d] 207,bU f [vS (a.1.1.1),q,s,t,u,vI (a.1.2.2.1),v] 137,Sl aT q a.1.1.2.1,Sl aK s a.1.1.2.2,Sl bN t a.1.2.1.1,S2 bD u C a.1.2.1.2,S2 bN v D a.1.2.2.2,S2 bN w g a.2.1,Sl bD d a.2.2.2]) (tQ.fn (show aW Tryz.prog 167 from Tryz.call167) Z) Tryz.func167 Z Tryz.ntmps167 Z Z ?_ ?_
  ·refine aV<|aD Z<|aD Z<|aL<|aV ?_;refine aH (aM.alloc (cs:=cellsOf cC (List.replicate 24 (0:Int))) Z (by kernel_rfl)) Z λo=>?_;refine aL<|aJ ?_;refine JR.start [0,1,3,7,15,31,63,127,0,256,768,1792,4095,8191,16383,32767] 12 mixedOrders (by decide +kernel) ?_;refine JR.open (by exact rfl) ?_;refine bH Z<|iF Z (bX Z)<|dB Z<|bL Z .nil (lR 0 Z) (dH Z (aE.fact 0 Z) Z Z Z) aP.z<|iF Z (bX Z)<|dB Z<|dB Z<|bL Z .nil (lR 1 Z) (dH Z (aE.fact 0 Z) Z Z Z) aP.z<|bH Z<|iF Z (bX Z)<|dB Z<|bL Z .nil (lR 0 Z) (dH Z (aE.fact 0 Z) Z Z Z) aP.z<|bP 12 Z Z<|cX h λE h=>aB (cA Z Z (aE.fact 5 Z) Z Z E) Z<|aB (cF Z (aE.fact 5 Z) Z Z E) Z<|aB (fW Z (aE.el (aE.fact 5 Z) E.1 E.2) Z) Z<|aD Z<|aL<|aJ<|dR (λk=>rB U a m k=some r) (λk H=>[(0,vP b),(1,vI ((at' a.2.2.2 m).1)),(2,vI (m)),(7,vI (k.1)),(8,vP o),(9,vI (List.length (at' a.1.2.1.2 a.2.2.1):Int))]) (λk H=>[bU o (cellsOf cC k.2) 235]) ?_ ?_
   ·refine aV<|aA Z<|aA Z<|aL<|aS<|dU (kJ U a m X) (λj J=>[(0,vP b),(1,vI ((at' a.2.2.2 m).1)),(2,vI (m)),(7,vI (j.1)),(8,vP o),(9,vI (List.length (at' a.1.2.1.2 a.2.2.1):Int)),(26,vI (List.length (at' a.1.2.1.2 a.2.2.1):Int)),(27,vI (j.2.1))]) (λj J=>[bU o (cellsOf cC j.2.2) 235]) ((0:Int),(0:Int),(List.replicate 24 (0:Int))) () h SF (a_.ix [0] Z Z) ?_;intro aj j J h;refine aV<|cM Z<|aL<|aJ ?_;refine eX h Z (λh=>?_) λh=>?_
    ·refine cK<|aJ<|aS<|aV<|aA Z<|aD Z<|aL<|aO<|aA Z<|aA Z<|aA Z<|cJ Z<|aA Z<|fH h λF ac h=>aH (aM.callQ Bj (p b f q s t u C v D w g d F ac) Z (pO [0,1,2,3,4,5,6,7,8] Z)) Z λao=>aA Z<|iW Z<|iW Z<|cX h λL h=>aB (oL Z Z Z Z Z L.1) Z<|Jf 0 (e:=cC) F.1 L Z Z Z Z Z Z Z<|aD Z<|eJ<|mI<|aO<|cJ Z<|aA Z<|aL ?_;exact xY (F.2,(wI .i64 (j.2.1+(1:Int))),(List.set j.2.2 (Int.toNat j.2.1) F.1)) () h SF Z
    refine fC ?_;exact gY (j.1,j.2.2) () h SF Z
   intro k H h;refine aJ<|dR (λy=>kI U a m k y=some r) (λy I=>[(1,vI ((at' a.2.2.2 m).1)),(7,vI (y)),(8,vP o),(9,vI (List.length (at' a.1.2.1.2 a.2.2.1):Int))]) (λy I=>[bU o (cellsOf cC k.2) 235]) ?_ ?_
   ·refine aV<|aA Z<|cP Z<|aL ?_;refine eX h Z (λh=>?_) λh=>?_
    ·refine aO<|aA Z<|aB (bX Z) Z<|bS Z<|aB (dH Z (aE.fact 0 Z) Z Z Z) Z<|aA Z<|fH h λO ab h=>aH (aM.callQ ZW (RY U d O ab) Z (pO [8] Z)) Z λan=>aD Z<|aL ?_;exact gY (O) () h SF Z
    refine cK ?_;exact gY (k.1) () h SF Z
   intro y I h;refine aV<|aA Z<|aA Z<|cX h λK h=>aB (QM Z Z Z Z K) Z<|fH h λN aa h=>aH (aM.callQ aac (PM U (Value.slice (some ⟨o,0,none⟩) (Int.toNat (List.length (at' a.1.2.1.2 a.2.2.1):Int)) 24) N aa) Z (aF.cons (VC (i:=0) Z dM K (by decide)) .nil)) Z λam=>?_;refine aA Z<|aD Z<|aD Z<|aL<|aU ?_;exact u_ (N,y) () h (.inl Z) (Ha.r2 Z (RV.tmp Z) (RV.tmp Z)) Z .nil (aF.refl _ _)
  intro n G h;unfold nK at h;refine iW Z<|iW Z<|aD Z<|aD Z<|aL<|aU<|bK<|aI ?_;cases h;exact nJ () Z Z (RV.tmp Z) (RV.tmp Z) (a_.refl _) aF.nil
 refine aV<|bS Z<|dC 0 Z<|aB (AD Z Z) Z<|aD Z<|aL ?_;refine eX h Z (λh=>?_) λh=>?_
 ·refine aV<|aA Z<|aA Z<|cJ Z<|aA Z<|fH h λQ ad h=>aH (aM.callQ Bj (p b f q s t u C v D w g d Q ad) Z (pO [0,1,2,3,4,5,6,7,8] Z)) Z λap=>aA Z<|iW Z<|iW Z<|aD Z<|aD Z<|aL<|aV<|aA Z<|aA Z<|aA Z<|fH h λR ae h=>aH (aM.callQ Bj (p b f q s t u C v D w g d R ae) Z (pO [0,1,2,3,4,5,6,7,8] Z)) Z λaq=>aA Z<|iW Z<|iW Z<|aD Z<|aD Z<|aL<|aV<|bS Z<|dC 0 Z<|aA Z<|aA Z<|fH h λS af h=>aH (aM.callQ Z_ (KX U  S af) Z .nil) Z λar=>aA Z<|aD Z<|aD Z<|aL<|aU<|bK<|aI ?_;cases h;exact nJ () Z Z (RV.tmp Z) (RV.tmp Z) .nil aF.nil
 refine dL<|mI<|aV<|aA Z<|aA Z<|cJ Z<|aA Z<|fH h λT ag h=>aH (aM.callQ Bj (p b f q s t u C v D w g d T ag) Z (pO [0,1,2,3,4,5,6,7,8] Z)) Z λau=>aA Z<|iW Z<|iW Z<|aD Z<|aD Z<|aL<|aV<|aA Z<|aA Z<|aA Z<|fH h λV ah h=>aH (aM.callQ Bj (p b f q s t u C v D w g d V ah) Z (pO [0,1,2,3,4,5,6,7,8] Z)) Z λav=>aA Z<|iW Z<|iW Z<|aD Z<|aD Z<|aL<|aV<|aA Z<|aA Z<|aA Z<|fH h λW ai h=>aH (aM.callQ Bj (p b f q s t u C v D w g d W ai) Z (pO [0,1,2,3,4,5,6,7,8] Z)) Z λaw=>aA Z<|iW Z<|iW Z<|aD Z<|aD Z<|aL<|aJ<|aV<|aA Z<|p_ Z<|aL ?_;refine eX h Z (λh=>?_) λh=>?_
 ·refine aV<|aA Z<|aA Z<|aD Z<|aD Z<|aL<|aU<|aI ?_;cases h;exact nJ () Z Z (RV.tmp Z) (RV.tmp Z) .nil aF.nil
 refine cK<|aV<|aA Z<|aA Z<|aD Z<|aD Z<|aL<|aU ?_;cases h;exact nJ () Z Z (RV.tmp Z) (RV.tmp Z) .nil aF.nil
theorem DT (U:Nat):∀{a:NE} {p:Int} {q:Int} (b:Nat)  (c:Nat)  (f:Value)  (g:Value)  (i:Value)  (j:Value)  (n:lX)  (k:Value)  (o:sH)  (m:Value)  (e:sH)  (d:Value) (r:eZ),bR U a p q=some r->
  aX Tryz.prog 151 #[vP b,vI (p),vI (q)] [bU b [vP c,m,vI (a.2.2.1),d] 207,bU c [vS (a.1.1.1),f,g,i,j,vI (a.1.2.2.1),k] 137,Sl aT f a.1.1.2.1,Sl aK g a.1.1.2.2,Sl bN i a.1.2.1.1,S2 bD j n a.1.2.1.2,S2 bN k o a.1.2.2.2,S2 bN m e a.2.1,Sl bD d a.2.2.2] (λx:Unit=>Value.tuple #[vI (r.1),vI (r.2)]) (λx l=>l) (λ_ l=>l):=by
 induction U with
 |zero=>intros;rename_i h;cases h
 |succ U s=>exact λb c f g i j n k o m e d r h=>CM (bR U) U s b c f g i j n k o m e d r h
end Go.Proofs.YtmdlcmbplnhdnaaGreatDoor