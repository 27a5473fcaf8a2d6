/- Models and proofs. Conditions: none. -/
import Derived.Test.YtcnnfkapmjhnaaaGreatDoorZTTr1
import Derived.Maps.RangeRun
set_option linter.unusedVariables false
set_option linter.unusedSimpArgs false
set_option maxHeartbeats 4000000
set_option maxRecDepth 20000
namespace Go.Sx
theorem Lc {X R:Type} {b:X->(X->Option R)->Option R} {r:R} (I:X->Prop) (e:X->Nat)
  (h:∀x f,I x->(∀c,I c->e c<e x->f c=some r)->b x f=some r):∀(a:Nat) (x:X),I x->e x<a->bH b a x=some r:=by
 intro a
 induction a with
 |zero=>intro x _ j;omega
 |succ k l=>
  intro x g j;exact h x _ g λc d i=>l c d (by omega)
def OK {R:Type} (Q:R->Prop) (o:Option R):Prop:=∃r,o=some r∧Q r
theorem vJ {X R:Type} {step:X->(X->Option R)->Option R} {Q:R->Prop} (I:X->Prop) (d:X->Nat)
  (h:∀x e,I x->(∀b,I b->d b<d x->OK Q (e b))->OK Q (step x e)):∀(a:Nat) (x:X),I x->d x<a->OK Q (bH step a x):=by
 intro a
 induction a with
 |zero=>intro x _ i;omega
 |succ k j=>
  intro x f i;exact h x _ f λb c g=>j b c (by omega)
theorem cK {b:Type} {p:Prop} [Decidable p] (a:p) (x:Option b):ck p x=x:=if_pos a
theorem wr {x:Int} (a : -9223372036854775808<=x) (b:x<=9223372036854775807):wI .i64 x=x:=if_pos ⟨a,b⟩
theorem bB {a b:Type} {x:Option a} {y:a} {f:a->Option b} (h:x=some y):x.bind f=f y:=by rw[h];rfl
theorem aje {a:Type} (l r:List a) (x y:a) (i:Nat) (h:l.length=i):(l++x::r).set i y=l++y::r:=by
 rw[List.set_append_right _ _ (by omega)];simp[<-h]
theorem Wt {a:Type} [Inhabited a] (l r:List a) (x:a) (i:Nat) (h:l.length=i):at' (l++x::r) (i:Int)=x:=by
 rw[lF,zA6,zAb (by omega)];simp[<-h]
theorem fM {X R:Type} {step:X->(X->Option R)->Option R} {K:Option R} (N:Nat) (F:Nat->X) (c:∀(k:Nat) g,k<N->step (F k) g=g (F (k+1))) (e:∀g,step (F N) g=K):∀b,N<b->bH step b (F 0)=K:=by
 have i:∀(d a b:Nat),a+d=N->d<b->bH step b (F a)=K:=by
  intro d
  induction d with
  |zero=>
   intro a b j h;obtain rfl:a=N:=by omega
   obtain⟨f,rfl⟩:∃f,b=f+1:=⟨b - 1,by omega⟩
   exact e _
  |succ d l=>
   intro a b j h;obtain⟨f,rfl⟩:∃f,b=f+1:=⟨b - 1,by omega⟩
   show step (F a) (bH step f)=K;rw[c a _ (by omega)];exact l (a+1) f (by omega) (by omega)
 exact λb h=>i N 0 b (by omega) h
theorem Ef {X R:Type} {step:X->(X->Option R)->Option R} {K bad:Option R} (N:Nat) (p:Nat->Prop) (F:Nat->X) (r:∀(k:Nat) c,k<N->p k->step (F k) c=c (F (k+1))) (i:∀(k:Nat) c,k<N->¬p k->step (F k) c=bad) (j:∀c,step (F N) c=K):
  ∀b,N<b->((∀k,k<N->p k)->bH step b (F 0)=K)∧(¬(∀k,k<N->p k)->bH step b (F 0)=bad):=by
 have s:∀(d a b:Nat),a+d=N->d<b->((∀k,a<=k->k<N->p k)->bH step b (F a)=K)∧(¬(∀k,a<=k->k<N->p k)->bH step b (F a)=bad):=by
  intro d
  induction d with
  |zero=>
   intro a b t q;obtain rfl:a=N:=by omega
   obtain⟨f,rfl⟩:∃f,b=f+1:=⟨b - 1,by omega⟩
   exact⟨λ_=>j _,λh=>absurd (λk m g=>by omega) h⟩
  | succ d ih =>
   intro a b t q;obtain⟨f,rfl⟩:∃f,b=f+1:=⟨b - 1,by omega⟩
   obtain⟨u,v⟩:=ih (a+1) f (by omega) (by omega);have e:bH step (f+1) (F a)=step (F a) (bH step f):=rfl;rw[e];by_cases n:p a
   ·rw[r a _ (by omega) n];refine⟨λh=>u λk m g=>h k (by omega) g,λh=>v λo=>h λk m g=> ?_⟩
    by_cases l:k=a
    ·subst l;exact n
    ·exact o k (by omega) g
   ·exact⟨λh=>absurd (h a (zAe _) (by omega)) n,λ_=>i a _ (by omega) n⟩
 intro b q;obtain⟨m,g⟩:=s N 0 b (by omega) q;exact⟨λh=>m λk _ l=>h k l,λh=>g λo=>h λk l=>o k (by omega) l⟩
theorem mL {X R:Type} {step:X->(X->Option R)->Option R} {K:X->Option R} (N:Nat) (I:Nat->X->Prop) (e:∀(k:Nat) x i,k<N->I k x->∃c,I (k+1) c∧step x i=i c) (h:∀x i,I N x->step x i=K x):∀b x,I 0 x->N<b->∃c,I N c∧bH step b x=K c:=by
 have m:∀(d a b:Nat) (x:X),a+d=N->d<b->I a x->∃c,I N c∧bH step b x=K c:=by
  intro d
  induction d with
  |zero=>
   intro a b x p l g;obtain rfl:a=N:=by omega
   obtain⟨f,rfl⟩:∃f,b=f+1:=⟨b - 1,by omega⟩
   exact⟨x,g,h _ _ g⟩
  |succ d r=>
   intro a b x p l g;obtain⟨f,rfl⟩:∃f,b=f+1:=⟨b - 1,by omega⟩
   obtain⟨c,j,q⟩:=e a x (bH step f) (by omega) g;obtain⟨s,n,o⟩:=r (a+1) f c (by omega) (by omega) j;exact⟨s,n,by rw[<-o];exact q⟩
 exact λb x g l=>m N 0 b x (by omega) l g
def abo (q:Nat->Bool):Nat->Bool
 |0=>false
 |k+1=>abo q k||q k
theorem Yj {q:Nat->Bool}:∀{k:Nat},abo q k=true↔∃i,i<k∧q i=true
 |0=>by simp[abo]
 | k + 1 => by
  simp only[abo,zAx,Yj (k:=k)];constructor
  ·rintro(⟨i,b,a⟩|h)
   ·exact⟨i,by omega,a⟩
   ·exact⟨k,by omega,h⟩
  ·rintro⟨i,b,a⟩;by_cases e:i=k
   ·subst e;exact .inr a
   ·exact .inl ⟨i,by omega,a⟩
def yR (p:Nat->Bool):Nat->Nat
 |0=>0
 |k+1=>if p k then yR p k ||| 2^k else yR p k
theorem Rs (p:Nat->Bool):∀k,yR p k<2^k
 |0=>by simp[yR]
 |k+1=>by
  have h:=Rs p k;simp only[yR];split
  ·exact Nat.or_lt_two_pow (by omega) (Nat.pow_lt_pow_right (by omega) (by omega))
  ·omega
theorem Gg (p:Nat->Bool) (j:Nat):∀k,(yR p k).testBit j=(decide (j<k)&&p j)
 |0=>by simp[yR]
 | k + 1 => by
  have h:=Gg p j k;simp only[yR];by_cases e:j=k
  ·subst e;cases c:p j<;>simp[h,c]
  ·have a:decide (j<k+1)=decide (j<k):=decide_eq_decide.2 (by omega);have b:¬k=j:=λh=>e h.symm;split
   ·rw[Nat.testBit_or,h,zAu,a];simp[b]
   ·rw[h,a]
end Go.Sx
section
set_option linter.unusedSectionVars false
namespace Go.Sx
open Go.RowKit
section defs
variable {κ ν:Type} [DecidableEq κ]
def Fy (a:κ->Value) (b:ν->Value):Nat->List (κ×ν)->List MapEntry
 |_,[]=>[]
 |i,x::xs=>⟨a x.1,b x.2,i⟩::Fy a b (i+1) xs
def oC (k:κ):List (κ×ν)->Option ν
 | []=>none
 |x::xs=>if k=x.1 then some x.2 else oC k xs
def Em (k:κ) (v:ν):List (κ×ν)->List (κ×ν)
 | []=>[(k,v)]
 |x::xs=>if k=x.1 then(k,v)::xs else x::Em k v xs
def WM (a:ν->Value) (k:κ):Nat->List (κ×ν)->Option (Nat×Value)
 |_,[]=>none
 |i,x::xs=>if k=x.1 then some (i,a x.2)else WM a k (i+1) xs
theorem Pq (a:ν->Value) (k:κ):∀(i:Nat) (l:List (κ×ν)),(WM a k i l).map (·.2)=(oC k l).map a
 |_,[]=>rfl
 |i,x::xs=>by
  simp only[WM,oC];split
  ·rfl
  ·exact Pq a k (i+1) xs
theorem Mv (a:κ->Value) (b:ν->Value):∀(i:Nat) (l:List (κ×ν)) (x:κ×ν),Fy a b i (l++[x])=Fy a b i l++[⟨a x.1,b x.2,i+l.length⟩]
 |i,[],x=>rfl
 |i,y::ys,x=>by
  simp only[List.cons_append,Fy,Mv a b (i+1) ys x,zAj];rw[show i+1+ys.length=i+(ys.length+1) by omega]
theorem JA (k:κ) (v:ν):∀l:List (κ×ν),oC k l=none->Em k v l=l++[(k,v)]
 | [],_=>rfl
 | x :: xs, h => by
  simp only[oC]at h;split at h
  ·cases h
  ·rename_i a;simp only[Em,if_neg a,JA k v xs h,List.cons_append]
theorem Vm (a:κ->Value) (b:ν->Value) (k:κ) (v:ν):∀(i0 i:Nat) (l:List (κ×ν)) (j:Nat) (u:Value),WM b k i l=some (j,u)->
  i<=j∧((Fy a b i l)[j - i]?).map (·.key)=some (a k)∧Fy a b i (Em k v l)=(Fy a b i l).modify (j - i) (λe=>{e with key:=a k,val:=b v})∧(Em k v l).length=l.length
 |_,i,[],j,u,h=>by simp[WM]at h
 | i0, i, x :: xs, j, u, h => by
  simp only[WM]at h;split at h
  ·rename_i n;simp only[Option.some.injEq,Prod.mk.injEq]at h;obtain⟨rfl,_⟩:=h;simp[Fy,Em,n]
  ·rename_i c;obtain⟨o,f,g,m⟩:=Vm a b k v i0 (i+1) xs j u h;have d:j - i=(j - (i+1))+1:=by omega
   refine⟨by omega,?_,?_,?_⟩
   ·rw[d];simpa [Fy]using f
   ·simp only[Em,if_neg c,Fy];rw[d,List.modify_succ_cons,g]
   ·simp[Em,c,m]
end defs
structure Lt (P:Program) (kt:TypeId) {κ:Type} [DecidableEq κ] (ek:κ->Value):Prop where
 chk:∀b k w,(Instr.checkKey b 10000 kt (ek k)).run P w = .ok () w
 find:∀{ν:Type} (ev:ν->Value) (k:κ) (l:List (κ×ν)) w,(Instr.findKey kt (ek k) (Fy ek ev 0 l)).run P w = .ok (WM ev k 0 l) w
 same:∀k,Instr.sameBits 10000 (ek k) (ek k)=true
def Mp {b c:Type} (d:b->Value) (e:c->Value) (r:Nat) (l:List (b×c)):bF where
 p w F:=F r∧w.heap[r]? = some (.map (Fy d e 0 l).toArray l.length)
 mono:=fun⟨f,a⟩ h=>by
  obtain⟨g,i⟩:=h r f (zAa.1 a).1;exact⟨g,by rw[i];exact a⟩
section
variable {P:Program} {rd:Option Nat} {c:xD} {n:Sz} {σ:Fr} {M L:List bF} {Q:Exit->Act->World->Prop} {ops:Array Oper} {rest:List Oper}
variable {d:Option Tmp} {ty:TypeId} {pos:String} {aft:Array Edge} {g:Option (Nat×Bool)}
theorem St.push {w:World} (t:St c M L w) (o:Obj) {m:bF} (z:m.p (w.alloc o) (λk=>k=w.heap.size)):St c (m::M) L (w.alloc o):=by
 have e:OE w (w.alloc o):=(Below.refl _ _).alloc (zAe _) _;obtain⟨v,F,b,x⟩:=t;have u:∀k,k<w.heap.size->(w.alloc o).heap[k]? = w.heap[k]? := e.block;refine⟨v.trans e,λi k=>match i with|0=>k=w.heap.size|i+1=>F i k,⟨?_,?_,?_⟩,λf y=> ?_⟩
 ·intro i A a;cases i with
  |zero=>simp at a;subst a;exact z
  |succ i=>exact bF.same (b.res i A (by simpa using a)) (λ_ h=>h) (λk _ s=>u k s)
 ·intro i k q;cases i with
  |zero=>subst q;exact⟨.inl v.size,by simp⟩
  |succ i=>exact⟨(b.rng i k q).1,zAo (b.rng i k q).2 e.size⟩
 ·intro i j k l r;cases i with
  |zero=>
   cases j with
   |zero=>rfl
   |succ j=>have:=(b.rng j k r).2;simp only at l;omega
  |succ i=>
   cases j with
   |zero=>have:=(b.rng i k l).2;simp only at r;omega
   |succ j=>exact congrArg (· + 1) (b.dis i j k l r)
 ·exact f.mono (x f y) λk q s=>⟨⟨q.1,λi l=>by
   cases i with
   |zero=>simp only at l;omega
   |succ i=>exact q.2 i l⟩,u k s⟩
variable {κ ν:Type} [DecidableEq κ] {ek:κ->Value} {ev:ν->Value}
theorem aI.makeMap (ek:κ->Value) (ev:ν->Value) {T:TypeId}:aI P c n σ M L ⟨d,.makeMap T none,ty,pos,aft,g⟩ (λr:Nat=> .map (some r)) (λr=>Mp ek ev r []::M) (λ_=>L):=λa w s t=>by
 have b:(execOp a.eval ⟨d,.makeMap T none,ty,pos,aft,g⟩).run P w = .ok (.value (.map (some w.heap.size))) (w.alloc (.map #[] 0)):=by
  simp[execOp,Instr.makeMap]
 simp only[Oper.wp,b,Oper.upon];exact⟨w.heap.size,rfl,t.push _ ⟨rfl,heap_alloc_new w _⟩⟩
theorem Uf [dG P] {T j m:TypeId} {C D E G:Nat} {z f:Value} {o:TypeDesc} {w:World} {r:Nat} {l:List (κ×ν)} {F:Nat->Prop} (i:Lt P j ek) (q:(Mp ek ev r l).p w F)
  (s:dG.tab P T=some ⟨.map j m,C,D,z⟩) (t:dG.tab P m=some ⟨o,E,G,f⟩) (k:κ) (b:Bool):
  (Instr.lookup T (.map (some r)) (ek k) b).run P w = .ok (if b then .tuple #[((oC k l).map ev).getD f,.bool (oC k l).isSome]else((oC k l).map ev).getD f) w:=by
 have y:(getObj r).run P w = .ok (.map (Fy ek ev 0 l).toArray l.length) w:=by
  simp[getObj,Sem.run,q.2]
 have u:=i.find ev k l w;have a:=Pq ev k 0 l;simp only[Instr.lookup];simp[(dG.ok s).run_und w,y,i.chk,u];cases e:WM ev k 0 l with
 |none=>
  rw[e]at a;have:oC k l=none:=by cases h:oC k l<;>simp[h]at a ⊢
  simp[this,(dG.ok t).run_zero w]
 | some x =>
  rw[e]at a;obtain⟨v,A,B⟩:∃v,oC k l=some v∧ev v=x.2:=by
   cases h:oC k l with
   |none=>simp[h]at a
   |some v=>simp[h]at a;exact⟨v,rfl,a.symm⟩
  simp[A,B]
theorem QP [dG P] (j:Nat) {T e f:TypeId} {D E G H:Nat} {z h:Value} {i:TypeDesc} {x y:Operand} {r:Nat} {l:List (κ×ν)} (k:κ) {b:Bool} (v:Lt P e ek) (B:Go.Sx.ev σ x=some (.map (some r))) (C:Go.Sx.ev σ y=some (ek k)) (q:M[j]? = some (Mp ek ev r l))
  (o:dG.tab P T=some ⟨.map e f,D,E,z⟩) (p:dG.tab P f=some ⟨i,G,H,h⟩) {u:Value} (A:((oC k l).map ev).getD h=u):
  Y P c n σ M L ⟨d,.lookup T x y b,ty,pos,aft,g⟩ (if b then .tuple #[u,.bool (oC k l).isSome]else u):=λa w s t=>by
 obtain⟨F,m⟩:=t.res q;subst A;simp[execOp,s.eval B,s.eval C,Uf v m o p]
theorem FB {w:World} {r:Nat} {a:Array MapEntry} {k:Nat} (h:w.heap[r]? = some (.map a k)) (o:Obj):(setObj r o).run P w = .ok () {w with heap:=w.heap.setIfInBounds r o}:=by
 simp[setObj,Sem.run,h]
theorem St.setMap {w:World} (t:St c M L w) {j r:Nat} {l b:List (κ×ν)} (f:M[j]? = some (Mp ek ev r l)) (o:Obj) (m:o = .map (Fy ek ev 0 b).toArray b.length):
  St c (M.set j (Mp ek ev r b)) L {w with heap:=w.heap.setIfInBounds r o}:=
 t.upd f Z Z Z (by simp) λF a _=>⟨λk _ i=>by
   rw[zAz (λe=>i (by subst e;exact a.1))],F,⟨a.1,by
    rw[zB2 (zAa.1 a.2).1,m]⟩,λ_ h=> .inl h⟩
theorem Qq [dG P] (j:Nat) {T R vt:TypeId} {s1 s2:Nat} {z:Value} {x y v:Operand} {r:Nat} {l:List (κ×ν)} (k:κ) (f:ν) (C:Lt P R ek) (Y:Go.Sx.ev σ x=some (.map (some r))) (hy:Go.Sx.ev σ y=some (ek k)) (X:Go.Sx.ev σ v=some (ev f)) (K:M[j]? = some (Mp ek ev r l))
  (I:dG.tab P T=some ⟨.map R vt,s1,s2,z⟩) (h:J c n σ (M.set j (Mp ek ev r (Em k f l))) L (wpList P ops Q rest)):
  J c n σ M L (wpList P ops Q (⟨none,.mapUpdate T x y v,ty,pos,aft,none⟩::rest)):=λa w s t=>by
 refine nZ Z ?_;obtain⟨F,E⟩:=t.res K;have N:(getObj r).run P w = .ok (.map (Fy ek ev 0 l).toArray l.length) w:=by
  simp[getObj,Sem.run,E.2]
 have b:=C.find ev k l w;have A:=Pq ev k 0 l;have B:∃o:Obj,(execOp a.eval ⟨none,.mapUpdate T x y v,ty,pos,aft,none⟩).run P w = .ok .skip {w with heap:=w.heap.setIfInBounds r o}∧o = .map (Fy ek ev 0 (Em k f l)).toArray (Em k f l).length:=by
  simp only[execOp,s.eval Y,s.eval hy,s.eval X,Instr.mapUpdate];cases m:WM ev k 0 l with
  |none=>
   rw[m]at A b;have U:oC k l=none:=by cases h:oC k l<;>simp[h]at A ⊢
   refine⟨.map (Fy ek ev 0 l++[(⟨ek k,ev f,l.length⟩:MapEntry)]).toArray (l.length+1),by simp[(dG.ok I).run_und w,N,C.chk,b,FB E.2],?_⟩
   rw[JA k f l U,Mv];simp
  | some q =>
   obtain⟨i,u⟩:=q;rw[m]at b;obtain⟨_,D,H,S⟩:=Vm ek ev k f 0 0 l i u m;rw[Nat.sub_zero]at D H;have O:(((Fy ek ev 0 l).toArray[i]?).map (·.key)).getD (ek k)=ek k:=by
    rw[List.getElem?_toArray,D];rfl
   refine⟨.map ((Fy ek ev 0 l).toArray.modify i λe=>{e with key:=ek k,val:=ev f}) l.length,?_,?_⟩
   ·have G:(Instr.keyThatStays (ek k) (ek k)).run P w = .ok (ek k) w:=by simp[Instr.keyThatStays,C.same k]
    have p:(Option.map (λx=>x.key) (Fy ek ev 0 l)[i]?).getD (ek k)=ek k:=by rw[D];rfl
    simp[(dG.ok I).run_und w,N,C.chk,b,p,G,FB E.2]
   ·rw[H,S];simp
 obtain⟨o,W,V⟩:=B;simp only[Oper.wp,W,Oper.upon];exact h _ _ s (t.setMap K o V)
end
end Go.Sx
end
section
set_option linter.unusedSectionVars false
namespace Go.Sx
open Go.RowKit Go.ChangeMaps
def It (b m a:Nat) (c:List Nat):bF where
 p w F:=F b∧w.heap[b]? = some (.mapIter (some m) a c.toArray a)
 mono:=fun⟨e,d⟩ h=>by
  obtain⟨f,g⟩:=h b e (zAa.1 d).1;exact⟨f,by rw[g];exact d⟩
section
variable {κ ν:Type} [DecidableEq κ] {ek:κ->Value} {ev:ν->Value} {R:Type}
theorem PL (ek:κ->Value) (ev:ν->Value):∀(k:Nat) (l:List (κ×ν)) (e:MapEntry),e∈Fy ek ev k l->∃i a,l[i]? = some a∧e=⟨ek a.1,ev a.2,k+i⟩
 |_,[],e,h=>by simp[Fy]at h
 | k, x :: xs, e, h => by
  rcases zAk.1 h with rfl|h
  ·exact⟨0,x,rfl,rfl⟩
  ·obtain⟨i,a,b,c⟩:=PL ek ev (k+1) xs e h;exact⟨i+1,a,b,by rw[c,show k+1+i=k+(i+1) by omega]⟩
theorem PK (ek:κ->Value) (ev:ν->Value):∀(k:Nat) (l:List (κ×ν)) (i:Nat) (a:κ×ν),l[i]? = some a->(⟨ek a.1,ev a.2,k+i⟩:MapEntry)∈Fy ek ev k l
 |_,[],i,a,h=>by simp at h
 |k,x::xs,0,a,h=>by simp at h;subst h;exact zA7
 |k,x::xs,i+1,a,h=>by
  have:=PK ek ev (k+1) xs i a (by simpa using h);rw[show k+1+i=k+(i+1) by omega]at this;exact zAh _ this
theorem Rx (ek:κ->Value) (ev:ν->Value):∀(k:Nat) (l:List (κ×ν)),(Fy ek ev k l).map (·.born)=List.range' k l.length
 |_,[]=>rfl
 |k,x::xs=>by simp[Fy,Rx ek ev (k+1) xs,List.range'_succ]
def Nn (a:κ×ν->Option R->Option R) (K:Option R) (l:List (κ×ν)):Option R:=l.foldr a K
def rem (l:List (κ×ν)) (a:List Nat):List (κ×ν):=((List.range l.length).filter (λi=> !a.contains i)).filterMap (λi=>l[i]?)
theorem Oh:∀l:List (κ×ν),(List.range l.length).filterMap (λi=>l[i]?)=l
 | []=>rfl
 |x::xs=>by
  rw[zAj,List.range_succ_eq_map,List.filterMap_cons];simp only[List.getElem?_cons_zero,List.filterMap_map];congr 1;have:=Oh xs;simpa [Function.comp_def]using this
theorem ads (l:List (κ×ν)):rem l []=l:=by
 unfold rem;rw[List.filter_eq_self.2 (by simp),Oh]
theorem aag {l:List (κ×ν)} {a:List Nat} {i:Nat} {m:κ×ν} (k:l[i]? = some m) (t:i∉a):∃n o,rem l a=n++m::o∧rem l (a++[i])=n++o:=by
 have g:=bJ k;have d:i∈(List.range l.length).filter (λi=> !a.contains i):=by simp[g,t]
 obtain⟨A,B,b⟩:=List.append_of_mem d;have c:((List.range l.length).filter (λi=> !a.contains i)).Nodup:=List.Pairwise.filter _ List.nodup_range;rw[b]at c;have r:i∉A:=λh=>by
  have:=(List.nodup_append.1 c).2.2 i h i zA7;exact this Z
 have s:i∉B:=λh=>by
  have:=(zB6.1 (List.nodup_append.1 c).2.1).1;exact this h
 refine⟨A.filterMap (λi=>l[i]?),B.filterMap (λi=>l[i]?),?_,?_⟩
 ·unfold rem;rw[b,List.filterMap_append,List.filterMap_cons,k]
 ·unfold rem;have e:(List.range l.length).filter (λj=> !(a++[i]).contains j)=((List.range l.length).filter (λj=> !a.contains j)).filter (λj=>decide (j≠i)):=by
   rw[List.filter_filter];apply List.filter_congr;intro j _;rw[Bool.eq_iff_iff];simp[and_comm]
  rw[e,b,List.filter_append,List.filter_cons];have p:A.filter (λj=>decide (j≠i))=A:=List.filter_eq_self.2 (λj f=>by simp;rintro rfl;exact r f);have q:B.filter (λj=>decide (j≠i))=B:=List.filter_eq_self.2 (λj f=>by simp;rintro rfl;exact s f);rw[p,q,List.filterMap_append.symm];simp
theorem Of {c:κ×ν->Option R->Option R} (f:∀a b x,c a (c b x)=c b (c a x)) (K:Option R) (d:κ×ν) (e:List (κ×ν)):∀g:List (κ×ν),Nn c K (g++d::e)=c d (Nn c K (g++e))
 | []=>rfl
 |x::xs=>by
  have:=Of f K d e xs;unfold Nn at this ⊢;rw[List.cons_append,List.cons_append,List.foldr_cons,List.foldr_cons,this,f]
end
section
variable {P:Program} {rd:Option Nat} {c:xD} {n:Sz} {σ σ':Fr} {M L M' L':List bF} {Q:Exit->Act->World->Prop} {ops:Array Oper} {rest:List Oper}
variable {d:Option Tmp} {ty:TypeId} {pos:String} {aft:Array Edge} {g:Option (Nat×Bool)}
variable {κ ν:Type} [DecidableEq κ] {ek:κ->Value} {ev:ν->Value} {R:Type}
theorem aI.range [dG P] (j:Nat) {T f h:TypeId} {q r:Nat} {z:Value} {x:Operand} {m:Nat} {l:List (κ×ν)} (p:Go.Sx.ev σ x=some (.map (some m))) (o:M[j]? = some (Mp ek ev m l)) (k:dG.tab P T=some ⟨.map f h,q,r,z⟩):
  aI P c n σ M L ⟨d,.range T x,ty,pos,aft,g⟩ (λb:Nat=> .pointer (some ⟨b,0,none⟩)) (λb=>It b m l.length []::M) (λ_=>L):=λa w s t=>by
 obtain⟨F,i⟩:=t.res o;have e:(execOp a.eval ⟨d,.range T x,ty,pos,aft,g⟩).run P w = .ok (.value (.pointer (some ⟨w.heap.size,0,none⟩))) (w.alloc (.mapIter (some m) l.length #[] l.length)):=by
  simp[execOp,s.eval p,run_range_map w T f h m _ _ (dG.ok k).und i.2]
 simp only[Oper.wp,e,Oper.upon];exact⟨w.heap.size,rfl,t.push _ ⟨rfl,heap_alloc_new w _⟩⟩
def Iw (ek:κ->Value) (ev:ν->Value) (l:List (κ×ν)):Option Nat->Value
 |none=> .tuple #[.bool false]
 |some i=>match l[i]? with
  |some a=> .tuple #[.bool true,ek a.1,ev a.2]
  |none=>undef
def afU (b:Nat) (a:List Nat):Option Nat->Prop
 |none=>∀i,i<b->i∈a
 |some i=>i<b∧i∉a
def Vy (M:List bF) (f b m e:Nat) (a:List Nat):Option Nat->List bF
 |none=>M
 |some i=>M.set f (It b m e (a++[i]))
theorem St.pureL {w:World} {p:Prop} (hp:p) (t:St c M L w):St c M (aex p::L) w:=by
 obtain⟨ho,F,hF,hL⟩:=t;refine⟨ho,F,hF,λf hf=> ?_⟩
 rcases zAk.1 hf with rfl|hf
 ·exact hp
 ·exact hL f hf
theorem aI.next (jm ji:Nat) {x:Operand} {b m:Nat} {l:List (κ×ν)} {seen:List Nat} (hx:Go.Sx.ev σ x=some (.pointer (some ⟨b,0,none⟩))) (hf:M[jm]? = some (Mp ek ev m l)) (hi:M[ji]? = some (It b m l.length seen)):
  aI P c n σ M L ⟨d,.next x false,ty,pos,aft,g⟩ (Iw ek ev l) (Vy M ji b m l.length seen) (λo=>aex (afU l.length seen o)::L):=λa w s t=>by
 obtain⟨F,hF⟩:=t.res hf;obtain⟨G,hG⟩:=t.res hi;have hold:∀e∈(Fy ek ev 0 l).toArray.toList,e.born<l.length:=λe he=>by
  obtain⟨i,kv,h1,h2⟩:=PL ek ev 0 l e (by simpa using he);rw[h2];have:=bJ h1;simp;omega
 rcases run_next_at (P:=P) w ty b m l.length l.length seen.toArray (Fy ek ev 0 l).toArray l.length hG.2 hF.2 hold (zAe _)with⟨h0,hr⟩|⟨e,he,w1,hw1,hr⟩
 ·have hrun:(execOp a.eval ⟨d,.next x false,ty,pos,aft,g⟩).run P w = .ok (.value (.tuple #[.bool false])) w:=by
   simp[execOp,s.eval hx,hr]
  simp only[Oper.wp,hrun,Oper.upon];refine⟨none,rfl,t.pureL λi hi'=> ?_⟩
  obtain⟨kv,hkv⟩:∃kv,l[i]? = some kv:=⟨_,zA0 hi'⟩
  have:=all_seen _ _ h0 _ (by simpa using PK ek ev 0 l i kv hkv);simpa using this
 ·have hml:=_root_.Go.mem_left he;obtain⟨i,kv,h1,h2⟩:=PL ek ev 0 l e (by simpa using hml.1);subst h2;rw[Nat.zero_add]at hr hml;have hrun:(execOp a.eval ⟨d,.next x false,ty,pos,aft,g⟩).run P w = .ok (.value (.tuple #[.bool true,ek kv.1,ev kv.2])) (setBlock w1 b (.mapIter (some m) l.length (seen.toArray.push i) l.length)):=by
   simp[execOp,s.eval hx,hr]
  simp only[Oper.wp,hrun,Oper.upon];have t1:St c M L w1:=by
   rcases hw1 with rfl|rfl
   ·exact t
   ·exact t.ext ((Below.refl _ _).drew)
  refine⟨some i,by simp[Iw,h1],St.pureL ⟨bJ h1,by simpa using hml.2⟩ ?_⟩
  refine t1.upd hi Z Z Z (by simp[setBlock]) λF hF _=>⟨λk _ hk=> ?_,F,⟨hF.1,?_⟩,λ_ h=> .inl h⟩
  ·simp only[setBlock];rw[zAz (λe=>hk (by subst e;exact hF.1))]
  ·simp only[setBlock];rw[zB2 (zAa.1 hF.2).1];simp
theorem aI.entry (A z:Nat) {x:Operand} {b m i:Nat} {l:List (κ×ν)} {f:List Nat} {e:κ×ν} (j:l[i]? = some e) (y:Go.Sx.ev σ x=some (.pointer (some ⟨b,0,none⟩))) (q:M[A]? = some (Mp ek ev m l)) (r:M[z]? = some (It b m l.length (f++[i]))):
  aI P c n σ M L ⟨d,.entry x,ty,pos,aft,g⟩ (λ_:Unit=> .tuple #[ek e.1,ev e.2]) (λ_=>M) (λ_=>L):=λa w s t=>by
 obtain⟨F,o⟩:=t.res q;obtain⟨G,p⟩:=t.res r;have k:=PK ek ev 0 l i e j;rw[Nat.zero_add]at k;have u:((Fy ek ev 0 l).toArray.toList.map (·.born)).Nodup:=by
  simp only[Rx];exact List.nodup_range'
 have v:=run_entry_at (P:=P) w b m l.length f.toArray (Fy ek ev 0 l).toArray l.length ⟨ek e.1,ev e.2,i⟩ (by rw[p.2];simp) o.2 (by simpa using k) u;have h:(execOp a.eval ⟨d,.entry x,ty,pos,aft,g⟩).run P w = .ok (.value (.tuple #[ek e.1,ev e.2])) w:=by
  simp[execOp,s.eval y,v]
 simp only[Oper.wp,h,Oper.upon];exact⟨(),by first|rfl|trivial,t⟩
theorem aba {G:Act->World->Prop} (σ':Fr) (M' L':List bF) (f:Ah σ σ') (e:a_ M M') (b:aB [] L L') (h:J c n σ' M' L' G):J c n σ M L G:=λa w s t=>h a w (s.weak f) (t.weakE e b)
theorem Td {e:TypeId} {d:TypeDesc} (p:P.underlying e=some d) (m:∀b k w,(Instr.checkKey b 10000 e (ek k)).run P w = .ok () w) (o:∀a b,Instr.sameNow d (ek a) (ek b)=none)
  (r:∀a b w,(Op.equal e (ek a) (ek b)).run P w = .ok (decide (a=b)) w) (f:∀k,Instr.sameBits 10000 (ek k) (ek k)=true):Lt P e ek:=by
 refine⟨m,λ{ν'} ev' k l w=> ?_,f⟩
 have j:∀(l:List (κ×ν')) (i:Nat),(Instr.findAsking e (ek k) (Fy ek ev' i l) i).run P w = .ok (WM ev' k i l) w:=by
  intro l
  induction l with
  |nil=>intro i;simp[Fy,WM,Instr.findAsking]
  |cons x q t=>
   intro i;simp only[Fy,WM,Instr.findAsking];simp[r];by_cases h:k=x.1
   ·simp[h]
   ·simp[h,t]
 unfold Instr.findKey;cases l with
 |nil=>simp[Fy,WM,Instr.findNow,run_underlying p w]
 |cons x q=>
  have s:Instr.findNow d (ek k) (Fy ek ev' 0 (x::q)) 0=none:=by simp[Fy,Instr.findNow,o]
  simp[run_underlying p w,s,j]
def XT {R:Type} (c:xD) (n:Sz) (σ:Fr) (M L:List bF) (x:Option R) (r:R) (a:Act) (w:World):Prop:=x=some r∧Gt n σ a∧St c M L w
theorem Tc {R:Type} {x:Option R} {r:R} (h:x=some r) (e:Ah σ' σ) (b:a_ M' M) (a:aB [] L' L):J c n σ' M' L' (XT c n σ M L x r):=λ_ _ s t=>⟨h,s.weak e,t.weakE b a⟩
theorem Wj (p:κ×ν->Option R->Option R) {K:Option R} {r:R} (O s:Nat) {b m:Nat} {l:List (κ×ν)} (hc:∀a b x,p a (p b x)=p b (p a x)) (h:Nn p K l=some r)
  (hf:M[O]? = some (Mp ek ev m l)) (U:M[s]? = some (It b m l.length [])) (af:Nat.beq s O=false) {t0 S T:Tmp} (hx:lk σ t0=some (.pointer (some ⟨b,0,none⟩))) (ab:Nat.blt S n.sz=true) (E:Nat.blt T n.sz=true)
  {id ex:Nat} {y1 y2:TypeId} {q1 q2:String} {f1 f2:Array Edge} {y:Code}
  (C:∀(t:κ×ν) (i:Nat) (k:List Nat) (x:Option R),l[i]? = some t->p t x=some r->
   J c n ((T,.bool true)::(S,.tuple #[.bool true,ek t.1,ev t.2])::σ) (M.set s (It b m l.length (k++[i]))) L (y.wpr rd P (Exit.then (XT c n σ (M.set s (It b m l.length (k++[i]))) L x r) Q)))
  (V:∀k,K=some r->J c n ((T,.bool false)::(S,.tuple #[.bool false])::σ) (M.set s (It b m l.length k)) L (Q (.exit ex))):
  J c n σ M L ((Code.loop (Code.seq (Code.region id [⟨some S,.next (.tmp t0) false,y1,q1,f1,none⟩,⟨some T,.extract (.tmp S) 0,y2,q2,f2,none⟩].toArray false) (Code.seq (Code.cond (.tmp T) .skip (.exit ex)) y))).wpr rd P Q):=by
 have z:=bJ U;have ae:O≠s:=λe=>by subst e;simp at af
 have H:M.set s (It b m l.length [])=M:=by
  apply List.ext_getElem?;intro q;by_cases eq:q=s
  ·subst eq;rw[zAm z,U]
  ·rw[zAy (Ne.symm eq)]
 refine XL (X:=List Nat) (λk=>k.Nodup∧(∀i∈k,i<l.length)∧Nn p K (rem l k)=some r) (λ_=>σ) (λk=>M.set s (It b m l.length k)) (λ_=>L) (λk=>l.length - k.length) [] ⟨List.nodup_nil,by simp,by rw[ads];exact h⟩ (Ah.refl _) (by rw[H];exact a_.refl _) (λ_ h=>h) ?_;rintro k ⟨G,F,v⟩;have ac:(M.set s (It b m l.length k))[O]? = some (Mp ek ev m l):=by rw[zAy (Ne.symm ae)];exact hf
 have ad:(M.set s (It b m l.length k))[s]? = some (It b m l.length k):=zAm z;refine aK (aQ (aG (aI.next O s (x:= .tmp t0) hx ac ad) ab λo=> ?_));refine aeu zA7 λho=> ?_;refine aev (M':=Vy (M.set s (It b m l.length k)) s b m l.length k o) (L':=L) ?_ (Ah.refl _) (a_.refl _) (λf hf=>zAh _ hf);cases o with
 | none =>
  refine aD (fZ (vs:=[.bool false]) (by simp[Iw,lk,Go.Sx.ev]) Z) E (eV (CE (aK (CC (by simp[lk,Go.Sx.ev]) (sD (fD (fD ?_)))))));refine V k ?_;have:rem l k=[]:=by
   unfold rem;rw[List.filter_eq_nil_iff.2 (λi U=>by simpa using ho i (by simpa using U))];rfl
  rw[this]at v;exact v
 | some i =>
  obtain⟨W,Y⟩:=ho;obtain⟨t,A⟩:∃t,l[i]? = some t:=⟨_,zA0 W⟩
  have N:Iw ek ev l (some i) = .tuple #[.bool true,ek t.1,ev t.2]:=by simp[Iw,A]
  obtain⟨l1,l2,e1,e2⟩:=aag A Y;have B:p t (Nn p K (rem l (k++[i])))=some r:=by
   rw[e2,<-Of hc K t l2 l1,<-e1];exact v
  have aa:Vy (M.set s (It b m l.length k)) s b m l.length k (some i)=M.set s (It b m l.length (k++[i])):=by simp[Vy]
  rw[N,aa];refine aD (fZ (vs:=[.bool true,ek t.1,ev t.2]) (by simp[lk,Go.Sx.ev]) Z) E (eV (CE (aK (Uy (by simp[lk,Go.Sx.ev]) (dD (CE ?_))))));refine XM (C t i k _ A B) λa w hw=>IW (λe a' w' q=> ?_) hw;cases e with
  | normal =>
   obtain⟨ai,ag,ah⟩:=q;refine⟨k++[i],⟨?_,?_,ai⟩,?_,ag,ah⟩
   ·rw[List.nodup_append];exact⟨G,by simp,λa ha b D=>by simp at D;subst D;rintro rfl;exact Y ha⟩
   ·intro j u;rcases List.mem_append.1 u with u|u
    ·exact F j u
    ·simp at u;subst u;exact W
   ·have:k.length<l.length:=by
     have I:(k++[i]).length<=(List.range l.length).length:=by
      apply List.Nodup.length_le_of_subset
      ·rw[List.nodup_append];exact⟨G,by simp,λa ha b D=>by simp at D;subst D;rintro rfl;exact Y ha⟩
      ·intro j u;rcases List.mem_append.1 u with u|u
       ·simpa using F j u
       ·simp at u;subst u;simpa using W
     simp at I;omega
    simp;omega
  |exit id=>exact q
  |goto l=>exact q
  |ret=>exact q
  |panic ch=>exact q
  |outgrown=>exact q
end
end Go.Sx
end
namespace Go.Sx
open Go.RowKit
section
variable {P:Program} {rd:Option Nat} {c:xD} {n:Sz} {σ σ':Fr} {M L M' L':List bF} {Q:Exit->Act->World->Prop} {ops:Array Oper} {rest:List Oper} {K:Act->World->Prop} {G:Act->World->Prop}
variable {d:Option Tmp} {D:Nat} {ty:TypeId} {pos:String} {aft:Array Edge} {g:Option (Nat×Bool)}
variable {α β:Type} {e:fQ α} {r:fT α}
def Hj (P:Program) (f:FuncId) (a:Array Value) (Min L:List bF) {A:Type} (b:A->Value) (h:A->List bF->List bF):Prop:=
 ∀c:xD,St c Min L c.w0->Calls P f a c.w0 λe i=>∃x:A,e = .returned (b x)∧St c (h x []) [] i
theorem Hj.of {A:Type} {b:A->Value} {q:A->List bF->List bF} {f:FuncId} {i:Func} {a:Code} {vs:List Value} {m:Nat} {Min:List bF}
  (u:P.funcs[f]? = some i) (s:i.body=some a) (x:i.ntmps=m) (w:Nat.ble vs.length m=true)
  (h:∀c:xD,J c ⟨m,[]⟩ (Aw 0 vs) Min L (a.wpr none P (iX P i (Qz c b q (λ_ l=>l))))):Hj P f vs.toArray Min L b q:=λc t=>by
 have o:vs.length<=m:=by simpa using w
 refine vA u s (h c _ _ ⟨rfl,by simp[x,o],?_⟩ t);intro t v y;obtain⟨_,j⟩:=Fv vs 0 t v y;rw[Nat.sub_zero]at j;have p:t<vs.length:=by
  rcases zAp t vs.length with k|k
  ·exact k
  ·rw[zAr k]at j;cases j
 rw[zB7 (by simpa using p)];simpa using j
theorem Yb {w S:World} {l H v:List bF} {F:Nat->Nat->Prop} {U:Nat->Prop} (y:Dk c.O c.w0 w) (o:Own c w (l++H) F) (Y:∀f∈L,f.p w (Gs c F))
  (t:St ⟨w,U,λk=>∃i,i<l.length∧F i k⟩ v [] S):St c (v++H) L S:=by
 obtain⟨s,T,u,_⟩:=t;have C:=s.size;have x:∀k,k<w.heap.size->(∀i,i<l.length->¬F i k)->S.heap[k]? = w.heap[k]? := λk a hn=>s.block k a (fun⟨i,B,o⟩=>hn i B o);have b:∀i k,T i k->w.heap.size<=k∨∃j,j<l.length∧F j k:=λi k a=>(u.rng i k a).1;refine⟨⟨s.os.trans y.os,s.tape.trans y.tape,s.output.trans y.output,zB4 y.size C,λk a W=> ?_⟩,
  λi k=>(i<v.length∧T i k)∨(v.length<=i∧F (i - v.length+l.length) k),⟨?_,?_,?_⟩,λf hf=> ?_⟩
 ·refine(x k (zAo a y.size) (λi _ I=> ?_)).trans (y.block k a W);rcases(o.rng i k I).1 with h|h
  ·omega
  ·exact W h
 ·intro i m E;by_cases B:i<v.length
  ·rw[zAd B]at E;exact bF.same (u.res i m E) (λk a=> .inl ⟨B,a⟩) (λ_ _ _=>rfl)
  ·rw[zAb (by omega)]at E;have R:(l++H)[i - v.length+l.length]? = some m:=by
    rw[zAb (by omega),Nat.add_sub_cancel];exact E
   exact bF.same (o.res _ m R) (λk a=> .inr ⟨by omega,a⟩) (λk a N=>x k N (λj X J=>by have:=o.dis _ _ k J a;omega))
 ·rintro i k (⟨_,a⟩|⟨_,a⟩)
  ·refine⟨?_,(u.rng i k a).2⟩
   rcases b i k a with h|⟨j,_,h⟩
   ·exact .inl (zB4 y.size h)
   ·exact(o.rng j k h).1
  ·exact⟨(o.rng _ k a).1,zAo (o.rng _ k a).2 C⟩
 ·rintro i j k (⟨B,z⟩|⟨B,z⟩) (⟨X,A⟩|⟨X,A⟩)
  ·exact u.dis i j k z A
  ·rcases b i k z with h|⟨q,hq,h⟩
   ·have:=(o.rng _ k A).2;omega
   ·have:=o.dis _ _ k h A;omega
  ·rcases b j k A with h|⟨q,hq,h⟩
   ·have:=(o.rng _ k z).2;omega
   ·have:=o.dis _ _ k h z;omega
  ·have:=o.dis _ _ k z A;omega
 ·refine f.mono (Y f hf) λk a N=>⟨⟨a.1,?_⟩,x k N (λi _=>a.2 i)⟩
  rintro i (⟨_,h⟩|⟨_,h⟩)
  ·rcases b i k h with V|⟨q,_,V⟩
   ·omega
   ·exact a.2 q V
  ·exact a.2 _ h
theorem St.enterM {w:World} {a u t:List bF} {F:Nat->Nat->Prop} (o:Own c w (a++u) F) (y:∀f∈L,f.p w (Gs c F)) (B:aB u L t):
  St ⟨w,λk=>∀i,i<a.length->¬F i k,λk=>∃i,i<a.length∧F i k⟩ a t w:=by
 refine⟨Dk.refl _,λi k=>i<a.length∧F i k,⟨λi m s=> ?_,λi k b=>⟨.inr ⟨i,b⟩,(o.rng i k b.2).2⟩,λi j k v x=>o.dis i j k v.2 x.2⟩,λf z=> ?_⟩
 ·have l:i<a.length:=by
   rcases zAp i a.length with q|q
   ·exact q
   ·rw[zAr q]at s;cases s
  exact bF.same (o.res i m (by rw[zAd l];exact s)) (λk b=>⟨l,b⟩) (λ_ _ _=>rfl)
 ·refine B f z w (Gs c F) (λj k=>F (j+a.length) k) _ y (λj m A=> ?_) (λk b=> ?_) (λj k b=> ?_)
  ·exact o.res _ m (by rw[zAb (by omega),Nat.add_sub_cancel];exact A)
  ·exact⟨.inl λi _=>b.2 i,λi l=>b.2 i l.2⟩
  ·exact⟨.inl λi l h=>by have:=o.dis _ _ k h b;omega,λi l=>by have:=o.dis _ _ k l.2 b;omega⟩
theorem Hi {A:Type} {k:A->Value} {m:A->List bF->List bF} {f:FuncId} {p:List Operand} {vs:List Value} {b:Array TypeId} {q Min Mr:List bF} (z:aS P f)
  (C:Hj P f vs.toArray Min q k m) (H:p.map (ev σ)=vs.map some) (y:a_ M (Min++Mr)) (v:aB Mr L q) (o:∀x l,m x l=m x []++l):
  aI P c n σ M L ⟨d,.call ⟨.value (.func f),p.toArray,b⟩,ty,pos,aft,g⟩ k (λx=>m x Mr) (λ_=>L):=λa w s t=>by
 have j:(execOp a.eval ⟨d,.call ⟨.value (.func f),p.toArray,b⟩,ty,pos,aft,g⟩).run P w = .ok (.enter f vs.toArray) w:=by
  have e:=evs s H;simp[execOp,resolve,Act.eval,Deferred.ofValue,invoke,z _ w,e]
 simp only[Oper.wp,j,Oper.upon];obtain⟨B,F,u,i⟩:=t.weak (L':=L) y (λ_ h=>h);refine(C _ (St.enterM u i v)).mono ?_;rintro e I ⟨x,rfl,E⟩;refine⟨x,rfl,?_⟩
 rw[o];exact Yb B u i E
def abc {A B:Type} (c:xD) (C:A->Prop) (a:A->B->Value) (f b:A->B->List bF) (e:Ending) (w:World):Prop:=∃x y,C x∧e = .returned (a x y)∧St c (f x y) (b x y) w
theorem Mf {j:Func} {a:List Value} {m:Nat} (l:j.ntmps=m) (k:Nat.ble a.length m=true):Gt ⟨m,[]⟩ (Aw 0 a) {tmps:=a.toArray++Array.replicate (j.ntmps - a.toArray.size) undef,defers:=[]}:=by
 have h:a.length<=m:=by simpa using k
 refine⟨rfl,by simp[l,h],?_⟩
 intro t v o;obtain⟨_,b⟩:=Fv a 0 t v o;rw[Nat.sub_zero]at b;have i:t<a.length:=by
  rcases zAp t a.length with f|f
  ·exact f
  ·rw[zAr f]at b;cases b
 rw[zB7 (by simpa using i)];simpa using b
structure nT (P:Program) (c:xD) (n:Sz) (σ:Fr) (M L:List bF) (o:Oper) (f:FuncId) (vs:List Value):Prop where
 run:∀a w,Gt n σ a->St c M L w->(execOp a.eval o).run P w = .ok (.enter f vs.toArray) w
theorem nT.fn {f:FuncId} {xs:List Operand} {vs:List Value} {b:Array TypeId} (h:aS P f) (i:xs.map (ev σ)=vs.map some):nT P c n σ M L ⟨d,.call ⟨.value (.func f),xs.toArray,b⟩,ty,pos,aft,g⟩ f vs:=⟨λa w s _=>by
 have e:=evs s i;simp[execOp,resolve,Act.eval,Deferred.ofValue,invoke,h _ w,e]⟩
theorem uX {f:FuncId} {t:Tmp} {h:List Operand} {us cs vs:List Value} {b:Array TypeId} (j:aS P f) (k:lk σ t=some (.func (.func f) #[] cs.toArray)) (m:h.map (ev σ)=us.map some) (l:us++cs=vs):nT P c n σ M L ⟨d,.call ⟨.value (.tmp t),h.toArray,b⟩,ty,pos,aft,g⟩ f vs:=⟨λa w s _=>by
 have e:=evs s m;have i:a.eval (.tmp t) = .func (.func f) #[] cs.toArray:=s.eval (x:= .tmp t) k;subst l;simp[execOp,resolve,i,Deferred.ofValue,invoke,j _ w,e]⟩
def Cu (P:Program) (c:xD) (n:Sz) (σ:Fr) (M L:List bF) (b:Func) (v:Value):Prop:=∀a w,Gt n σ a->St c M L w->(results b a.tmps).run P w = .ok v w
variable {fn:Func}
theorem Cu.r0 (b:fn.results = #[]):Cu P c n σ M L fn (.tuple #[]):=λa w _ _=>by simp[results,b]
theorem Cu.r1 {f:ResultVar} {h:Value} (b:fn.results = #[f]) (i:RV P c n σ M L f h):Cu P c n σ M L fn h:=λa w s t=>by
 have:=i a w s t;simp only[Cd,b];simp[this]
theorem Cu.r2 {i j:ResultVar} {k l:Value} (b:fn.results = #[i,j]) (f:RV P c n σ M L i k) (h:RV P c n σ M L j l):Cu P c n σ M L fn (.tuple #[k,l]):=λa w s t=>by
 have f:=f a w s t;have h:=h a w s t;simp only[Cd,b];simp[f,h]
theorem jV {A B:Type} {m:Sz} {v:Value} {f:Exit} {C:A->Prop} {b:A->B->Value} {k j:A->B->List bF} (x:A) (y:B) (l:C x) (i:f = .ret∨f = .normal) (q:Cu P c m σ' M L fn v) (u:v=b x y) (p:a_ M (k x y)) (o:aB [] L (j x y)) (h:m.ds=[]:=by rfl):
  J c m σ' M L (iX P fn (abc c C b k j) f):=λa w s t=>by
 exact body_end i (s.defers.trans h) (q a w s t) ⟨x,y,l,by rw[u],t.weakE p o⟩
end
section
variable {P:Program} {rd:Option Nat} {c:xD} {n:Sz} {σ σ':Fr} {M L M' L':List bF} {Q:Exit->Act->World->Prop} {ops:Array Oper} {rest:List Oper} {K:Act->World->Prop} {G:Act->World->Prop}
variable {d:Option Tmp} {D:Nat} {ty:TypeId} {pos:String} {aft:Array Edge} {g:Option (Nat×Bool)}
variable {α β:Type} {e:fQ α} {r:fT α}
theorem QJ (i:Nat) {k:Int} {vs:List Value} {xss:List (List α)} (E:M[i]? = some (nH e vs xss)) (h:0<=k∧k<xss.length):
  tQ M L (Ar e (at' vs k) (at' xss k)::M.set i (nH e (vs.set k.toNat (.slice none 0 0)) (xss.set k.toNat []))) L:=λc w t=>by
 obtain⟨X,F,s,W⟩:=t;obtain⟨A,G,U,u,O⟩:=s.res i _ E;have R:k.toNat<vs.length:=by omega
 have S:i<M.length:=(List.getElem?_eq_some_iff.1 E).1;have B:=U k.toNat _ _ (mJ h.1 (by omega)) (mJ h.1 h.2);refine⟨X,λj q=>match j with|0=>G k.toNat q|j+1=>(j=i∧∃p,p≠k.toNat∧G p q)∨(j≠i∧F j q),⟨?_,?_,?_⟩,λf E=> ?_⟩
 ·intro j m y;cases j with
  |zero=>simp at y;subst y;exact B
  | succ j =>
   rw[List.getElem?_cons_succ]at y;by_cases N:j=i
   ·subst N;rw[zAm S]at y;cases y;refine⟨by simp[A],λp q=>p≠k.toNat∧G p q,λp v V H I=> ?_,λp q a=> .inl ⟨rfl,p,a⟩,λT C q b l=>O _ _ q b.2 l.2⟩
    by_cases x:p=k.toNat
    ·subst x;rw[zAm R]at H;rw[zAm (by omega)]at I;cases H;cases I;exact⟨by simp,rfl,.inl ⟨rfl,rfl⟩⟩
    ·rw[zAy (Ne.symm x)]at H I;exact bF.same (f:=Ar e v V) (U p v V H I) (λq a=>⟨x,a⟩) (λ_ _ _=>rfl)
   ·rw[zAy (Ne.symm N)]at y;exact bF.same (s.res j m y) (λq a=> .inr ⟨N,a⟩) (λ_ _ _=>rfl)
 ·intro j q a;cases j with
  |zero=>exact s.rng i q (u _ q a)
  |succ j=>
   rcases a with⟨_,p,_,a⟩|⟨_,a⟩
   ·exact s.rng i q (u _ q a)
   ·exact s.rng j q a
 ·intro T C q b l;cases T with
  | zero =>
   cases C with
   |zero=>rfl
   |succ C=>
    rcases l with⟨_,p,o,l⟩|⟨o,l⟩
    ·exact absurd (O _ _ q l b) o
    ·exact absurd (s.dis _ _ q l (u _ q b)) o
  | succ T =>
   cases C with
   |zero=>
    rcases b with⟨_,p,o,b⟩|⟨o,b⟩
    ·exact absurd (O _ _ q b l) o
    ·exact absurd (s.dis _ _ q b (u _ q l)) o
   |succ C=>
    congr 1;rcases b with⟨J,p,_,b⟩|⟨J,b⟩<;>rcases l with⟨x,Y,_,l⟩|⟨x,l⟩
    ·rw[J,x]
    ·exact absurd (s.dis _ _ q l (u _ q b)) x
    ·exact absurd (s.dis _ _ q b (u _ q l)) J
    ·exact s.dis _ _ q b l
 ·refine bF.same (W f E) (λq a=>⟨a.1,λj z=> ?_⟩) (λ_ _ _=>rfl);cases j with
  |zero=>exact a.2 i (u _ q z)
  |succ j=>
   rcases z with⟨_,p,_,z⟩|⟨_,z⟩
   ·exact a.2 i (u _ q z)
   ·exact a.2 j z
theorem QF (i j:Nat) {u:Value} {k:Int} {vs:List Value} {xss:List (List α)} {ys:List α} (a:Nat.beq i j=false) (b:M[i]? = some (nH e (vs.set k.toNat (.slice none 0 0)) (xss.set k.toNat []))) (f:M[j]? = some (Ar e u ys)) (h:0<=k∧k<(xss.set k.toNat []).length):
  tQ M L ((M.set i (nH e (vs.set k.toNat u) (xss.set k.toNat ys))).eraseIdx j) L:=by
 have:=As (L:=L) i j a b f h;rwa[List.set_set,List.set_set]at this
theorem NN {α:Type} [Inhabited α] (l:List α) {j k:Int} (y:α) (h:j.toNat≠k.toNat):at' (l.set j.toNat y) k=at' l k:=by
 rw[at',at',zA6,zA6,zAy h]
theorem Be [dG P] (i:Nat) {r:fT α} (f:e.Fits r) {x y:Operand} {u o:Value} {k j:Int} {vs:List Value} {a:List (List α)} {l b:List α} {T E:TypeId} {S U m s:Nat} {z t:Value} {v:TypeDesc} (N:ev σ x=some (at' vs k)) (O:ev σ y=some u) (H:M[i]? = some (nH e (vs.set j.toNat o) (a.set j.toNat b))) (I:aE M L (Sl r u l))
  (F:dG.tab P T=some ⟨.slice E,S,U,z⟩) (C:dG.tab P E=some ⟨v,m,s,t⟩) (A:e.sz=m) (B:Nat.ble s 1024=true) (w:0<=k∧k<a.length) (J:((at' a k).length:Int)+l.length<=1099511627) (R:t.cells.size=m) (h:j.toNat≠k.toNat):
  aI P c n σ M L ⟨d,.call ⟨.builtin .append,#[x,y],#[T,T]⟩,ty,pos,aft,g⟩ (λp:Value=>p) (λp=>M.set i (nH e ((vs.set j.toNat o).set k.toNat p) ((a.set j.toNat b).set k.toNat (at' a k++l)))) (λ_=>L):=by
 have q:at' (a.set j.toNat b) k=at' a k:=NN _ _ h;have:=sN (P:=P) (c:=c) (n:=n) (σ:=σ) (M:=M) (L:=L) (d:=d) (ty:=ty) (pos:=pos) (aft:=aft) (g:=g) (x:=x) (y:=y) (u:=u) (k:=k) (vs:=vs.set j.toNat o) (xss:=a.set j.toNat b) (ys:=l) i f (by rw[NN _ _ h];exact N) O H I F C A B (by simpa using w) (by rw[q];exact J) R;rwa[q]at this
theorem DN (q:Nat) {vs:List Value} {a:List (List α)} {k j:Int} {u z:Value} (x:M[q]? = some (nH e ((vs.set k.toNat u).set j.toNat z) a)) (i:k.toNat≠j.toNat) (h:0<=k∧k<a.length):∀c w,St c M L w->Go.Sx.one u=true:=λc w t=>by
 obtain⟨S,v,A,p,_⟩:=t.res x;have f:k.toNat<vs.length:=by simp at v;omega
 obtain⟨_,_,s⟩:=p k.toNat u _ (by rw[zAy (Ne.symm i),zAm f]) (zA0 (by omega));rcases s with⟨l,_⟩|⟨b,y,m,T,o,l,_⟩<;>(rw[l];rfl)
theorem KN {A:Type} {b:A->Value} {M' L':A->List bF} {f:Op} (j:aI P c n σ M L ⟨none,f,ty,pos,aft,none⟩ b M' L') (h:∀x,J c n σ (M' x) (L' x) (wpList P ops Q rest)):
  J c n σ M L (wpList P ops Q (⟨none,f,ty,pos,aft,none⟩::rest)):=λa w s t=>
 nZ Z (My (qF (λm l ⟨x,i,k⟩=>by subst i;exact h x _ l s k) (j a w s t)))
end
section
variable {P:Program} {rd:Option Nat} {c:xD} {n:Sz} {σ σ':Fr} {M L M' L':List bF} {Q:Exit->Act->World->Prop} {ops:Array Oper} {rest:List Oper} {K:Act->World->Prop} {G:Act->World->Prop}
variable {d:Option Tmp} {D:Nat} {ty:TypeId} {pos:String} {aft:Array Edge} {g:Option (Nat×Bool)}
variable {α β:Type} {e:fQ α} {r:fT α}
theorem Qv [dG P] (j:Nat) {T:TypeId} {s2:Nat} {z:Value} {dT:TypeDesc} {x y:Operand} {v u:Value} {i:Int} {m:List α} (yv:α) (hx:ev σ x=some (F_ v (i.toNat*1))) (hy:ev σ y=some u) (hu:e.enc yv=[u]) (B:one u=true)
  (X:M[j]? = some (Ar e v m)) (hT:dG.tab P T=some ⟨dT,1,s2,z⟩) (N:e.sz=1) (h0:0<=i) (W:i<m.length):
  aI P c n σ M L ⟨none,.store T x y,ty,pos,aft,none⟩ (λ_:Unit=>undef) (λ_=>M.set j (Ar e v (m.set i.toNat yv))) (λ_=>L):=λa w s t=>by
 obtain⟨F,J⟩:=t.res X;have Y:i.toNat<m.length:=by omega
 have E:m[i.toNat]? = some m[i.toNat]:=zA0 Y;have H:m≠[]:=by intro e;subst e;simp at Y
 obtain⟨p,hp⟩:∃p,e.enc m[i.toNat]=[p]:=List.length_eq_one_iff.1 ((e.len _).trans N);have f:=FU.cell J E (j:=0) (u:=p) (by rw[hp];rfl);rw[N,Nat.add_zero,Nat.mul_one]at f;rw[Nat.mul_one]at hx;have o:=Qm J H i.toNat;have I:(execOp a.eval ⟨none,.store T x y,ty,pos,aft,none⟩).run P w = .ok .skip (w.setCell (Nh v i.toNat) u):=by
  simp only[execOp,s.eval hx,s.eval hy,F_];simp[Es (dG.ok hT) Z B f o]
 simp only[Oper.wp,I,Oper.upon];refine⟨(),trivial,t.upd X Z Z Z (by simp[World.setCell]) λF J _=> ?_⟩
 obtain⟨hl,W,S⟩:=J;rcases S with⟨_,S⟩|⟨b,l,A,T',O,hv,C,hb,hk,hc,ht⟩
 ·exact absurd S H
 ·subst hv;have ha:Nh (.slice (some ⟨b,l,none⟩) m.length A) i.toNat=⟨b,l+i.toNat,none⟩:=by simp[Nh,fR]
  rw[ha];refine⟨λk _ U=>Below.heap_setCell _ _ _ _ (λe=>U (by simp only at e;subst e;exact C)),F,⟨by simpa using hl,?_,.inr ⟨b,l,A,T',O.setIfInBounds (l+i.toNat) u,by simp,C,?_,by simpa using hk,by simpa using hc,?_⟩⟩,λ_ h=> .inl h⟩
  ·rw[zF N hu,zA5];intro q V;rcases List.mem_or_eq_of_mem_set V with R|R
   ·exact zA5.1 W q R
   ·rw[R];exact B
  ·simp[World.setCell,Array.getElem?_modify,hb]
  ·rw[zF N hu,<-ht,Array.toList_setIfInBounds,zA3,<-take_set];congr 1;rw[List.drop_set,if_neg (by omega),Nat.add_sub_cancel_left]
theorem EY [dG P] (i:Nat) {T j:TypeId} {C:Nat} {z:Value} {m:TypeDesc} {x y:Operand} {b o:Nat} {cs:List Value} {v:Value} (A:ev σ x=some (.pointer (some ⟨b,o,none⟩)))
  (B:ev σ y=some v) (u:one v=true) (l:M[i]? = some (bM b cs j)) (p:dG.tab P T=some ⟨m,1,C,z⟩) (q:Nat.blt o cs.length=true):
  aI P c n σ M L ⟨none,.store T x y,ty,pos,aft,none⟩ (λ_:Unit=>undef) (λ_=>M.set i (bM b (cs.set o v) j)) (λ_=>L):=λa w s t=>by
 obtain⟨F,k⟩:=t.res l;have h:o<cs.length:=by simpa [zAw]using q
 have f:(execOp a.eval ⟨none,.store T x y,ty,pos,aft,none⟩).run P w = .ok .skip (w.setCell ⟨b,o,none⟩ v):=by
  simp[execOp,s.eval A,s.eval B,Es (dG.ok p) Z u (bM.cell k (zA0 h)) (Qn k o)]
 simp only[Oper.wp,f,Oper.upon];exact⟨(),trivial,t.store l v⟩
theorem nU [dG P] (i:Nat) {T k:TypeId} {J:Nat} {z:Value} {u:TypeDesc} {x y:Operand} {b:Nat} {cs vs:List Value} (H:ev σ x=some (.pointer (some ⟨b,0,none⟩)))
  (I:ev σ y=some (.agg vs.toArray)) (E:vs.all one=true) (q:M[i]? = some (bM b cs k)) (B:dG.tab P T=some ⟨u,vs.length,J,z⟩) (C:Nat.beq vs.length cs.length=true):
  aI P c n σ M L ⟨none,.store T x y,ty,pos,aft,none⟩ (λ_:Unit=>undef) (λ_=>M.set i (bM b vs k)) (λ_=>L):=λa w s t=>by
 obtain⟨F,A⟩:=t.res q;have f:vs.length=cs.length:=zA2 C;have h:∀v∈vs,v.oneCell'=true:=λv p=>qG (by simpa using zA5.1 E v p);obtain⟨N,l,o,_,_⟩:=(dG.ok B).info;have m:=run_storeVar_row (P:=P) w b k T cs.toArray vs.toArray A.2 (by simp[l,o]) (by simp[f]) (by simpa using h);have j:(execOp a.eval ⟨none,.store T x y,ty,pos,aft,none⟩).run P w = .ok .skip (w.setRow b vs.toArray):=by
  simp[execOp,s.eval H,s.eval I,Instr.storeAt,Instr.sureAddr,m]
 simp only[Oper.wp,j,Oper.upon];exact⟨(),trivial,t.fill q⟩
theorem CV [dG P] (j q:Nat) {T:TypeId} {E:Nat} {z:Value} {m:TypeDesc} {x y:Operand} {v u:Value} {i:Int} {vs b:List Value} {f:List (List α)} (h:0<=i∧i<f.length) (B:ev σ x=some (F_ v (i.toNat*1))) (C:ev σ y=some u)
  (p:M[j]? = some (Ar fQ.raw v vs)) (A:M[q]? = some (nH e b f)) (F:b.length=vs.length) (k:one u=true) (o:dG.tab P T=some ⟨m,1,E,z⟩):
  aI P c n σ M L ⟨none,.store T x y,ty,pos,aft,none⟩ (λ_:Unit=>undef) (λ_=>M.set j (Ar fQ.raw v (vs.set i.toNat u))) (λ_=>L):=λa w s t=>by
 have l:b.length=f.length:=by obtain⟨_,h⟩:=t.res A;exact h.1
 exact Qv j u B C Z k p o Z h.1 (by omega) a w s t
section
variable {l:List Oper} {m:List Nat} {k0:Nat} {H Bs:List (Nat×List bF×List bF)} {rs:List Nat}
theorem oG {A:Type} {j:A->Value} {M' L':A->List bF} {i:Nat} {b:Op}
  (o:l[i]? = some ⟨none,b,ty,pos,aft,none⟩) (v:Nat.blt i k0=true) (y:e_ b=true) (z:aI P c n σ M L ⟨none,b,ty,pos,aft,none⟩ j M' L')
  (q:∀x,Di (before m i) (M' x) (L' x) Bs) (h:∀x,JR c n σ (M' x) (L' x) ((i,M,L)::H) Bs (RW P l.toArray Q (before m) (dW l) k0 rs)):
  JR c n σ M L H Bs (RW P l.toArray Q (before m) (dW l) k0 (i::rs)):=λa w X Y s t u k=>by
 have f:l.toArray[i]? = some ⟨none,b,ty,pos,aft,none⟩:=by simpa using o
 simp only[RW,f];rw[if_pos (by simp[Region.wanted])];refine .inr (.inr ⟨by simpa [zAw]using v,by simp[dW,o,y],qF ?_ (z a w s t)⟩);rintro C B ⟨x,rfl,p⟩;exact⟨(q x).use p k,h x _ B _ Y s p ⟨rfl,t,u⟩ k⟩
end
theorem NH {A B:Type} {f:FuncId} {j:Func} {b:Code} {k:List Value} {m:Nat} {q:Op} (C:A->Prop) (i:A->B->Value) (o l:A->B->List bF) (E:nT P c n σ M L ⟨d,q,ty,pos,aft,g⟩ f k) (F:P.funcs[f]? = some j) (z:j.body=some b) (I:j.ntmps=m) (H:Nat.ble k.length m=true)
  (u:J c ⟨m,[]⟩ (Aw 0 k) M L (b.wpr none P (iX P j (abc c C i o l)))):
  aI P c n σ M L ⟨d,q,ty,pos,aft,g⟩ (λx:{p:A×B // C p.1}=>i x.1.1 x.1.2) (λx=>o x.1.1 x.1.2) (λx=>l x.1.1 x.1.2):=λa w s t=>by
 have h:=E.run a w s t;simp only[Oper.wp,h,Oper.upon];refine(vA F z (u _ w (Mf I H) t)).mono ?_;rintro e O ⟨x,y,v,rfl,N⟩;exact⟨⟨(x,y),v⟩,rfl,N⟩
theorem qN {A B:Type} {f:FuncId} {j:Func} {h:Code} {vs:List Value} {m:Nat} {o:Op} (C:A->Prop) (i:A->B->Value) (l k:A->B->List bF) (v:nT P c n σ M L ⟨some D,o,ty,pos,aft,none⟩ f vs) (w:P.funcs[f]? = some j) (u:j.body=some h) (y:j.ntmps=m) (x:Nat.ble vs.length m=true) (t:Nat.blt D n.sz=true)
  (p:J c ⟨m,[]⟩ (Aw 0 vs) M L (h.wpr none P (iX P j (abc c C i l k)))) (q:∀a b,C a->J c n ((D,i a b)::σ) (l a b) (k a b) (wpList P ops Q rest)):J c n σ M L (wpList P ops Q (⟨some D,o,ty,pos,aft,none⟩::rest)):=
 aG (NH C i l k v w u y x p) t fun⟨⟨a,b⟩,s⟩=>q a b s
section
variable {l:List Oper} {mm:List Nat} {k0:Nat} {H Bs:List (Nat×List bF×List bF)} {rs:List Nat}
theorem KO {A B:Type} {i:Nat} {f:FuncId} {p:Func} {h:Code} {vs:List Value} {m:Nat} {q:Op} (C:A->Prop) (j:A->B->Value) (o k:A->B->List bF) (E:l[i]? = some ⟨some D,q,ty,pos,aft,none⟩) (F:Nat.blt i k0=true) (I:e_ q=true) (y:nT P c n σ M L ⟨some D,q,ty,pos,aft,none⟩ f vs) (z:P.funcs[f]? = some p) (x:p.body=some h) (O:p.ntmps=m) (N:Nat.ble vs.length m=true) (w:Nat.blt D n.sz=true)
  (u:∀a b,Di (before mm i) (o a b) (k a b) Bs) (s:J c ⟨m,[]⟩ (Aw 0 vs) M L (h.wpr none P (iX P p (abc c C j o k)))) (t:∀a b,C a->JR c n ((D,j a b)::σ) (o a b) (k a b) ((i,M,L)::H) Bs (RW P l.toArray Q (before mm) (dW l) k0 rs)):
  JR c n σ M L H Bs (RW P l.toArray Q (before mm) (dW l) k0 (i::rs)):=
 zBc E F I (NH C j o k y z x O N s) w (λ_=>u _ _) fun⟨⟨a,b⟩,v⟩=>t a b v
end
theorem CI [dG P] {T E:TypeId} {k t u a v:Nat} {z w:Value} {f:TypeDesc} {x y:Operand} {b:Nat} {i:Int} (j:Nat) (q:ev σ x=some (.pointer (some ⟨b,0,none⟩))) (s:ev σ y=some (.int .i64 i))
  (m:dG.tab P T=some ⟨.array k E,t,u,z⟩) (l:dG.tab P E=some ⟨f,a,v,w⟩) (h:(a==0)=false) (A:i=(j:Int)) (o:Nat.blt j k=true):
  Y P c n σ M L ⟨d,.indexAddr T x y,ty,pos,aft,g⟩ (.pointer (some ⟨b,j*a,none⟩)):=by
 have p:j<k:=by simpa [zAw]using o
 have:=lP (P:=P) (c:=c) (n:=n) (σ:=σ) (M:=M) (L:=L) (d:=d) (ty:=ty) (pos:=pos) (aft:=aft) (g:=g) (i:=i) q s m l h (by omega);rwa[show i.toNat=j by omega]at this
theorem uZ [dG P] {T E:TypeId} {k q u b A:Nat} {z B:Value} {f:TypeDesc} {x y:Operand} {v:Value} {o:Nat} {i:Int} (m:ev σ x=some (F_ v o)) (p:ev σ y=some (.int .i64 i))
  (l:dG.tab P T=some ⟨.array k E,q,u,z⟩) (j:dG.tab P E=some ⟨f,b,A,B⟩) (_h3:(b==0)=false) (h:0<=i∧i<(k:Int)):
  Y P c n σ M L ⟨d,.indexAddr T x y,ty,pos,aft,g⟩ (F_ v (o+i.toNat*b)):=λa w s t=>by
 simp[execOp,s.eval m,s.eval p,Instr.indexAt,asIntOf,(dG.ok l).run_und w,h,Instr.sureAddr,F_,(dG.ok j).run_size w,KW]
theorem cF {x:Operand} {b o:Nat} (f:ev σ x=some (.pointer (some ⟨b,o,none⟩))):Y P c n σ M L ⟨d,.nilCheck x,ty,pos,aft,g⟩ (.pointer (some ⟨b,o,none⟩)):=λa w s t=>by
 simp[execOp,s.eval f]
theorem EZ [dG P] [Inhabited α] (j:Nat) {T:TypeId} {s2 k o q:Nat} {z:Value} {dT:TypeDesc} {x y:Operand} {v u:Value} {us:List Value} {i:Int} {p:List α} (J:α) (h:0<=i∧i<p.length) (hx:ev σ x=some (F_ v (i.toNat*q+o))) (hy:ev σ y=some u)
  (hf:M[j]? = some (Ar e v p)) (hq:e.sz=q) (U:u.cells=us.toArray) (hk:us.length=k) (ho:Nat.ble (o+k) q=true) (I:e.enc J=(e.enc (at' p i)).take o++us++(e.enc (at' p i)).drop (o+k)) (W:us.all one=true) (hT:dG.tab P T=some ⟨dT,k,s2,z⟩):
  aI P c n σ M L ⟨none,.store T x y,ty,pos,aft,none⟩ (λ_:Unit=>undef) (λ_=>M.set j (Ar e v (p.set i.toNat J))) (λ_=>L):=λa w s t=>by
 subst hq hk;have aq:o+us.length<=e.sz:=by simpa using ho
 have hi:i.toNat<p.length:=by omega
 have t0:=t;obtain⟨aj,FF,hO,af⟩:=t0;obtain⟨h0,A,hh⟩:=hO.res j _ hf;rcases hh with⟨_,rfl⟩|⟨b,m,V,T',f,rfl,X,Y,aa,hc,ht⟩
 ·simp at hi
 -- the parts of the row
 obtain⟨l,B,C,H,hl⟩:∃l B C,p=l++B::C∧l.length=i.toNat:=⟨p.take i.toNat,p[i.toNat],p.drop (i.toNat+1),by rw[List.getElem_cons_drop,List.take_append_drop],by simp;omega⟩
 have ah:at' p i=B:=by
  rw[at',zA6,<-hl,H,zAb (zAe _)];simp
 rw[ah]at I;have eE:=e.len B;have eA:(cellsOf e l).length=i.toNat*e.sz:=by rw[eZ,hl]
 have E:cellsOf e p=cellsOf e l++(e.enc B++cellsOf e C):=by rw[H];simp[cellsOf]
 have S:cellsOf e (p.set i.toNat J)=cellsOf e l++(e.enc J++cellsOf e C):=by
  have:p.set i.toNat J=l++J::C:=by rw[H,<-hl,List.set_append_right _ _ (zAe _)];simp
  rw[this];simp[cellsOf]
 have ao:p.length*e.sz<=V*e.sz:=zB5 _ aa;obtain⟨N,R,O,hH⟩:∃N R,f.toList=N++(cellsOf e l++(e.enc B++(cellsOf e C++R)))∧N.length=m:=by
  refine⟨f.toList.take m,(f.toList.drop m).drop (p.length*e.sz),?_,by simp;omega⟩
  have e1:cellsOf e l++(e.enc B++(cellsOf e C++(f.toList.drop m).drop (p.length*e.sz)))=f.toList.drop m:=by
   have:cellsOf e l++(e.enc B++(cellsOf e C++(f.toList.drop m).drop (p.length*e.sz)))=cellsOf e p++(f.toList.drop m).drop (p.length*e.sz):=by rw[E];simp
   rw[this,<-ht,List.take_append_drop]
  rw[e1,List.take_append_drop]
 have am:f.size=f.toList.length:=by simp
 have ak:f.toList.take (m+(i.toNat*e.sz+o))=N++(cellsOf e l++(e.enc B).take o):=by
  have:f.toList=(N++(cellsOf e l++(e.enc B).take o))++((e.enc B).drop o++(cellsOf e C++R)):=by
   rw[O,zB9,zB9,<-zB9 ((e.enc B).take o),List.take_append_drop]
  rw[this];exact List.take_left' (by simp[hH,eA,eE];omega)
 have al:f.toList.drop (m+(i.toNat*e.sz+o)+us.length)=(e.enc B).drop (o+us.length)++(cellsOf e C++R):=by
  have:f.toList=(N++(cellsOf e l++(e.enc B).take (o+us.length)))++((e.enc B).drop (o+us.length)++(cellsOf e C++R)):=by
   rw[O,zB9,zB9,<-zB9 ((e.enc B).take (o+us.length)),List.take_append_drop]
  rw[this];exact List.drop_left' (by simp[hH,eA,eE];omega)
 have ae:(i.toNat+1)*e.sz<=p.length*e.sz:=zB5 _ (by omega);have ap:(i.toNat+1)*e.sz=i.toNat*e.sz+e.sz:=by rw[zB1,Nat.one_mul]
 have ab:m+(i.toNat*e.sz+o)+0+us.length<=f.size:=by omega
 have ad:=run_storeCells_at P b (m+(i.toNat*e.sz+o)) T' us 0 f w Y ab (λu U=>qG (zA5.1 W u U));simp only[Nat.add_zero]at ad;have ar:(dG.ok hT).run_size w=(dG.ok hT).run_size w:=rfl;have ac:(execOp a.eval ⟨none,.store T x y,ty,pos,aft,none⟩).run P w = .ok .skip (w.setRow b (f.toList.take (m+(i.toNat*e.sz+o))++us++f.toList.drop (m+(i.toNat*e.sz+o)+us.length)).toArray):=by
  simp[execOp,s.eval hx,s.eval hy,F_,Nh,Instr.storeAt,Instr.sureAddr,storeVar,U,(dG.ok hT).run_size w,fR,ad]
 simp only[Oper.wp,ac,Oper.upon];refine⟨(),trivial,?_⟩
 refine KQ aj hO af hf Z Z Z (by simp) (λk _ ai=>setRow_other w b k _ (λe=>ai (by subst e;exact X))) (F':=FF j) ?_ (λk hk=> .inl hk);have F:(e.enc J).length=e.sz:=e.len J;refine⟨by simpa using h0,?_,.inr ⟨b,m,V,T',_,by simp,X,setRow_heap w b _ _ T' _ Y,by simpa using aa,?_,?_⟩⟩
 ·rw[S];rw[E]at A;simp only[List.all_append,zA4]at A ⊢;refine⟨A.1,?_,A.2.2⟩
  rw[I];simp only[List.all_append,zA4];refine⟨⟨zA5.2 λu U=>zA5.1 A.2.1 u (List.mem_of_mem_take U),W⟩,zA5.2 λu U=>zA5.1 A.2.1 u (List.mem_of_mem_drop U)⟩
 ·simp only[List.size_toArray,zAi,List.length_take,List.length_drop];omega
 ·show((f.toList.take _++us++f.toList.drop _).drop m).take ((p.set i.toNat J).length*e.sz)=_;rw[ak,al,S,I,zA3];have e3:(N++(cellsOf e l++(e.enc B).take o)++us++((e.enc B).drop (o+us.length)++(cellsOf e C++R)))=N++((cellsOf e l++(((e.enc B).take o++us++(e.enc B).drop (o+us.length))++cellsOf e C))++R):=by simp
  rw[e3,<-hH,List.drop_left];refine List.take_left' ?_;have ag:(cellsOf e C).length=C.length*e.sz:=eZ e C;have an:p.length=i.toNat+1+C.length:=by rw[H,<-hl];simp;omega
  rw[I]at F;rw[zAi,zAi,F,eA,ag,an,zB1,zB1,Nat.one_mul];omega
end
def Dfr (D:Nat):bF where
 p w F:=F D∧w.heap[D]? = some (.deferred (some []))
 mono:=fun⟨b,a⟩ h=>by
  obtain⟨c,d⟩:=h D b (zAa.1 a).1;exact⟨c,by rw[d];exact a⟩
structure XX where
 n:Nat
 σ:Fr
 ps:Array Tmp
 assign:Code
 body:Code
 D:Nat
def Lp (l:Nat) (R:XX) (i:LoopState) (a:Option Code):bF where
 p w F:=F l∧∃(fn:FuncId) (tmps:Array Value),tmps.size=R.n∧(∀t v,lk R.σ t=some v->tmps[t]? = some v)∧
  w.heap[l]? = some (.loop {state:=i,pending:=a,fn:=fn,tmps:=tmps,params:=R.ps,assign:=R.assign,body:=R.body,defers:=R.D})
 mono:=fun⟨c,fn,tmps,d,e,b⟩ h=>by
  obtain⟨f,g⟩:=h l c (zAa.1 b).1;exact⟨f,fn,tmps,d,e,by rw[g];exact b⟩
def Zw (D:Nat):Deferred:={target:= .collected D,args:= #[]}
def nS (l:Nat):Value:= .func (.yield l) #[] #[]
section
variable {P:Program} {rd:Option Nat} {c:xD} {n m:Sz} {σ σ':Fr} {M L:List bF} {Q:Exit->Act->World->Prop} {K G:Act->World->Prop}
theorem St.putLp {w:World} {l i:Nat} {R:XX} {y d:LoopState} {b a:Option Code} (t:St c M L w) (v:M[i]? = some (Lp l R y b)) {r:Loop} (o:w.heap[l]? = some (.loop r)):
  St c (M.set i (Lp l R d a)) L (w.putObj l (.loop {r with state:=d,pending:=a})):=by
 refine t.upd v Z Z Z (by simp) λF j _=>⟨λk _ x=> ?_,F,?_,λ_ h=> .inl h⟩
 ·exact World.putObj_heap_other (λe=>x (by subst e;exact j.1))
 ·obtain⟨q,p,f,s,u,g⟩:=j;rw[g]at o;cases o;exact⟨q,p,f,s,u,World.putObj_heap_same (zAa.1 g).1⟩
def XY (P:Program) (n:Sz) (σ:Fr) (l D:Nat) (Q:Exit->Act->World->Prop) (e:Ending) (w:World):Prop:=
 ∀a,Gt ⟨n.sz,Zw D::n.ds⟩ σ a->rangePost (FR none) 0 P l Q a e w
theorem Qr {g:Operand} {ps:Array Tmp} {assign body:Code} {f:FuncId} {fn:Func} {code:Code} {cs:List Value} {k:Nat} (hb:aS P f) (hx:ev σ g=some (.func (.func f) #[] cs.toArray)) (hf:P.funcs[f]? = some fn) (hbd:fn.body=some code) (hn:fn.ntmps=k) (hm:Nat.ble (cs.length+1) k=true)
  (h:∀l D,J c ⟨k,[]⟩ (Aw 0 (nS l::cs)) (Lp l ⟨n.sz,σ,ps,assign,body,D⟩ .ready none::Dfr D::M) L (code.wpr none P (iX P fn (XY P n σ l D Q)))):
  J c n σ M L ((Code.rangeFunc g ps assign body).wpr none P Q):=λa w s t=>by
 refine wpIn_rangeFunc λfn' _=> ?_;have hev:a.eval g = .func (.func f) #[] cs.toArray:=s.eval hx;let W:World:=(w.alloc (.deferred (some []))).alloc (.loop {state:= .ready,pending:=none,fn:=fn',tmps:=a.tmps,params:=ps,assign:=assign,body:=body,defers:=w.heap.size});refine⟨_,_,_,{target:= .fn (.func f) cs.toArray,args:= #[nS (w.heap.size+1)]},W,f,(nS (w.heap.size+1)::cs).toArray,W,run_enterLoop_outer fn' a.tmps ps assign body,?_,λ_ _=>trivial,?_,(λhc=>by cases hc),?_⟩
 ·have hc:∀v,a.eval (.const v)=v:=λ_=>rfl;simp[resolve,hev,hc,Deferred.ofValue,nS,W]
 ·simp[invoke,hb _ _,nS]
 ·have t1:St c (Dfr w.heap.size::M) L (w.alloc (.deferred (some []))):=t.push _ ⟨rfl,heap_alloc_new w _⟩;have t2:St c (Lp (w.heap.size+1) ⟨n.sz,σ,ps,assign,body,w.heap.size⟩ .ready none::Dfr w.heap.size::M) L ((w.alloc (.deferred (some []))).alloc (.loop {state:= .ready,pending:=none,fn:=fn',tmps:=a.tmps,params:=ps,assign:=assign,body:=body,defers:=w.heap.size})):=by
   have:=t1.push (.loop {state:= .ready,pending:=none,fn:=fn',tmps:=a.tmps,params:=ps,assign:=assign,body:=body,defers:=w.heap.size}) (m:=Lp (w.heap.size+1) ⟨n.sz,σ,ps,assign,body,w.heap.size⟩ .ready none)
    ⟨by simp,fn',a.tmps,s.size,s.slot,by rw[<-World.size_alloc w (.deferred (some []))];exact heap_alloc_new _ _⟩
   exact this
  refine Vd ((vA hf hbd (h (w.heap.size+1) w.heap.size _ _ (Mf hn (by simpa using hm)) t2)).mono ?_);intro e w' he;exact he _ ⟨by simp[Zw,s.defers],s.size,s.slot⟩
theorem Lr {f:Func} {b:Exit} {v:Value} {l D i:Nat} {R:XX} (e:b = .ret∨b = .normal) (j:M[i]? = some (Lp l R .ready none)) (q:Cu P c m σ' M L f v) (h:J c ⟨n.sz,Zw D::n.ds⟩ σ (M.set i (Lp l R .exhausted none)) L (Q .normal)) (d:m.ds=[]:=by rfl):
  J c m σ' M L (iX P f (XY P n σ l D Q) b):=λa w s t=>by
 refine body_end e (s.defers.trans d) (q a w s t) λo r=> ?_;obtain⟨F,u,p,k,x,y,g⟩:=t.res j;exact⟨none,_,run_endLoop g (by simp),h o _ r (t.putLp j g)⟩
theorem aa_ {f:Func} {b:Exit} {v:Value} {l D i:Nat} {R:XX} (e:b = .ret∨b = .normal) (j:M[i]? = some (Lp l R .done (some .ret))) (q:Cu P c m σ' M L f v) (h:J c ⟨n.sz,Zw D::n.ds⟩ σ (M.set i (Lp l R .exhausted (some .ret))) L (Q .ret)) (d:m.ds=[]:=by rfl):
  J c m σ' M L (iX P f (XY P n σ l D Q) b):=λa w s t=>by
 refine body_end e (s.defers.trans d) (q a w s t) λo r=> ?_;obtain⟨F,u,p,k,x,y,g⟩:=t.res j;exact⟨some .ret,_,run_endLoop g (by simp),wpIn_ret (h o _ r (t.putLp j g))⟩
def XB (P:Program) (l:Nat) (G:Act->World->Prop) (a:Act) (w:World):Prop:=∃b,(Instr.beginRound l).run P w = .ok () b∧G a b
theorem HS {l i:Nat} {R:XX} {b:Option Code} (e:M[i]? = some (Lp l R .ready b)) (h:J c n σ (M.set i (Lp l R .busy b)) L G):J c n σ M L (XB P l G):=λa w s t=>by
 obtain⟨F,j,g,f,k,o,d⟩:=t.res e;exact⟨_,run_beginRound d Z,h a _ s (t.putLp e d)⟩
def XZ (n:Sz) (σ:Fr) (d:Nat) (K:Act->World->Prop) (e:Ending) (w:World):Prop:=∃v,e = .returned v∧∀a,Gt n ((d,v)::σ) a->K a w
theorem BL {l i d:Nat} {R:XX} {b:Option Code} (f:M[i]? = some (Lp l R .busy b)) (h:J c m ((d,.bool true)::σ') (M.set i (Lp l R .ready none)) L K):J c n σ M L (roundPost P l (XZ m σ' d K) .normal):=λa w s t=>by
 obtain⟨F,p,k,g,q,r,e⟩:=t.res f;exact⟨_,_,run_endRound none e,_,rfl,λj o=>h j _ o (t.putLp f e)⟩
theorem XP {l i d:Nat} {R:XX} {b:Option Code} (f:M[i]? = some (Lp l R .busy b)) (h:J c m ((d,.bool false)::σ') (M.set i (Lp l R .done (some .ret))) L K):J c n σ M L (roundPost P l (XZ m σ' d K) .ret):=λa w s t=>by
 obtain⟨F,p,k,g,q,r,e⟩:=t.res f;exact⟨_,_,run_endRound (some .ret) e,_,rfl,λj o=>h j _ o (t.putLp f e)⟩
def HB:List Tmp->List Value->Fr->Fr
 |t::ts,v::vs,σ=>HB ts vs ((t,v)::σ)
 |_,_,σ=>σ
theorem Me:∀(d:List Tmp) (f:List Value) (a:Array Value) (σ:Fr) (k:Nat),a.size=k->d.all (λt=>Nat.blt t k)=true->(∀t v,lk σ t=some v->a[t]? = some v)->
  ((d.zip f).foldl (λa (x:Tmp×Value)=>a.setIfInBounds x.1 x.2) a).size=k∧∀t v,lk (HB d f σ) t=some v->((d.zip f).foldl (λa (x:Tmp×Value)=>a.setIfInBounds x.1 x.2) a)[t]? = some v
 | [],_,a,σ,k,h1,_,h3=>by simpa [HB]using ⟨h1,h3⟩
 |_::_,[],a,σ,k,h1,_,h3=>by simpa [HB]using ⟨h1,h3⟩
 | p :: d, x :: f, a, σ, k, h1, h2, h3 => by
  simp only[List.all_cons,zA4]at h2;have g:p<k:=by simpa [zAw]using h2.1
  simp only[List.zip_cons_cons,List.foldl_cons,HB];refine Me d f _ _ k (by simp[h1]) h2.2 λt v b=> ?_;simp only[lk]at b;by_cases e:t=p
  ·subst e;simp at b;subst b;simp[h1,g]
  ·rw[oK e]at b;simp only[cond_false]at b;rw[zAz (Ne.symm e)];exact h3 t v b
theorem abb {f:Array Oper} {b:List Oper} {t:Tmp} {z:List Operand} {g:List Value} {o:Array TypeId} {d:Nat} {B:TypeId} {y:String} {k:Array Edge} {l i:Nat} {R:XX} {j:List Tmp} (U:lk σ t=some (nS l)) (W:z.map (ev σ)=g.map some) (T:M[i]? = some (Lp l R .ready none)) (r:R.ps=j.toArray) (q:g.length=j.length) (p:j.all (λt=>Nat.blt t R.n)=true) (S:Nat.blt d n.sz=true)
  (h:J c ⟨R.n,[]⟩ (HB j g R.σ) M L (R.assign.wpr (some l) P (Exit.then (XB P l (R.body.wpr (some l) P (roundPost P l (XZ n σ d (wpList P f Q b))))) (λ_ _ _=>False)))):
  J c n σ M L (wpList P f Q (⟨some d,.call ⟨.value (.tmp t),z.toArray,o⟩,B,y,k,none⟩::b)):=λa w s A=>by
 obtain⟨F,h1,H,tmps,I,N,O⟩:=A.res T;have e:=evs s W;have C:a.eval (.tmp t)=nS l:=s.eval (x:= .tmp t) U;have X:=run_yield (P:=P) (args:=g.toArray) O (by simp[r,q]);have u:(execOp a.eval ⟨some d,.call ⟨.value (.tmp t),z.toArray,o⟩,B,y,k,none⟩).run P w=(Instr.yield l g.toArray).run P w:=by
  simp[execOp,resolve,C,nS,Deferred.ofValue,invoke,e]
 unfold wpList;rw[if_pos (show Region.wanted _ _=true from rfl)];refine .inr ⟨_,_,_,_,_,_,u.trans X,?_⟩;refine RoundIn.mono (R:=XZ n σ d (wpList P f Q b)) (roundIn_of_wpIn (F:=FR none) trivial ?_) ?_
 ·obtain⟨D,E⟩:=Me j g tmps R.σ R.n I p N;have:=h {tmps:=(j.zip g).foldl (λtmps (x:Tmp×Value)=>tmps.setIfInBounds x.1 x.2) tmps,defers:=[]} w ⟨rfl,D,E⟩ A;simp only[r,List.zip_toArray,List.foldl_toArray];exact this
 ·rintro e Y ⟨v,rfl,V⟩;exact⟨v,rfl,V _ (s.put d v S)⟩
theorem OG {g:Operand} {ps:Array Tmp} {assign body:Code} {f:FuncId} {fn:Func} {code:Code} {cs:List Value} {k:Nat} (hb:aS P f) (hx:ev σ g=some (.func (.func f) #[] cs.toArray)) (hf:P.funcs[f]? = some fn) (hbd:fn.body=some code) (hn:fn.ntmps=k) (hm:Nat.ble (cs.length+1) k=true)
  (h:∀(l D:Nat) (R:XX),R.n=n.sz∧R.σ=σ∧R.ps=ps∧R.assign=assign∧R.body=body->J c ⟨k,[]⟩ (Aw 0 (nS l::cs)) (Lp l R .ready none::Dfr D::M) L (code.wpr none P (iX P fn (XY P n σ l D Q)))):
  J c n σ M L ((Code.rangeFunc g ps assign body).wpr none P Q):=Qr hb hx hf hbd hn hm λl D=>h l D _ ⟨rfl,rfl,rfl,rfl,rfl⟩
theorem EW {j:Array Oper} {e:List Oper} {t:Tmp} {u:List Operand} {us:List Value} {r:Array TypeId} {d:Nat} {B:TypeId} {s:String} {q:Array Edge} {l i k:Nat} {R:XX} {p:List Tmp} {o:Fr} {a b:Code} (w:R.n=k∧R.σ=o∧R.ps=p.toArray∧R.assign=a∧R.body=b) (z:lk σ t=some (nS l)) (A:u.map (ev σ)=us.map some) (y:M[i]? = some (Lp l R .ready none)) (g:us.length=p.length) (f:p.all (λt=>Nat.blt t k)=true) (x:Nat.blt d n.sz=true)
  (h:J c ⟨k,[]⟩ (HB p us o) M L (a.wpr (some l) P (Exit.then (XB P l (b.wpr (some l) P (roundPost P l (XZ n σ d (wpList P j Q e))))) (λ_ _ _=>False)))):
  J c n σ M L (wpList P j Q (⟨some d,.call ⟨.value (.tmp t),u.toArray,r⟩,B,s,q,none⟩::e)):=by
 obtain⟨rfl,rfl,v,rfl,rfl⟩:=w;exact abb z A y v g f x h
end
def Al (Ds:List Nat):List Deferred:=Ds.map Zw
def Cz (Ds:List Nat):bF where
 p w F:=Ds.Nodup∧∀D∈Ds,F D∧w.heap[D]? = some (.deferred (some []))
 mono:=fun⟨c,a⟩ h=>⟨c,λD b=>by
  obtain⟨d,e⟩:=h D (a D b).1 (zAa.1 (a D b).2).1;exact⟨d,by rw[e];exact(a D b).2⟩⟩
section
variable {P:Program} {rd:Option Nat} {c:xD} {n m:Sz} {σ σ':Fr} {M L:List bF} {Q:Exit->Act->World->Prop} {K G:Act->World->Prop}
theorem Fb:tQ M L (Cz []::M) L:=tQ.add λ_=>⟨List.nodup_nil,by simp⟩
theorem QI (i j:Nat) {D:Nat} {e:List Nat} (d:i≠j) (l:M[i]? = some (Cz e)) (o:M[j]? = some (Dfr D)):tQ M L ((M.set i (Cz (D::e))).eraseIdx j) L:=λc w t=>
 t.merge i j d l o (by
  rintro w q r ⟨g,b⟩ ⟨f,h⟩ k;refine⟨zB6.2 ⟨λp=>k D (b D p).1 f,g⟩,λE a=> ?_⟩
  rcases zAk.1 a with rfl|a
  ·exact⟨.inr f,h⟩
  ·exact⟨.inl (b E a).1,(b E a).2⟩)
theorem y_ {g:Operand} {ps:Array Tmp} {assign body:Code} {f:FuncId} {fn:Func} {code:Code} {cs:List Value} {k i s:Nat} (Ds:List Nat) (hi:M[i]? = some (Cz Ds)) (hb:aS P f) (hx:ev σ g=some (.func (.func f) #[] cs.toArray)) (hf:P.funcs[f]? = some fn) (hbd:fn.body=some code) (hn:fn.ntmps=k) (hm:Nat.ble (cs.length+1) k=true)
  (h:∀(l D:Nat) (R:XX),R.n=s∧R.σ=σ∧R.ps=ps∧R.assign=assign∧R.body=body->J c ⟨k,[]⟩ (Aw 0 (nS l::cs)) (Lp l R .ready none::M.set i (Cz (D::Ds))) L (code.wpr none P (iX P fn (XY P ⟨s,Al Ds⟩ σ l D Q)))):
  J c ⟨s,Al Ds⟩ σ M L ((Code.rangeFunc g ps assign body).wpr none P Q):=OG hb hx hf hbd hn hm λl D R hR=>
 jT (QI (i+2) 1 (by omega) hi Z) (h l D R hR)
theorem mG {o:Func} {R:Ending->World->Prop} {f:Exit} {i k:Nat} (b:f = .ret∨f = .normal):∀{Ds:List Nat} {M:List bF},M[i]? = some (Cz Ds)->J c ⟨k,[]⟩ σ (M.set i (Cz [])) L (iX P o R f)->J c ⟨k,Al Ds⟩ σ M L (iX P o R f)
 | [], M, hi, h => by
  have:M.set i (Cz [])=M:=by
   apply List.ext_getElem?;intro j;by_cases e:i=j
   ·subst e;rw[hi];simp[(List.getElem?_eq_some_iff.1 hi).1]
   ·simp[zAy e]
  rw[this]at h;exact h
 | D :: Ds, M, hi, h => λa w s t => by
  obtain⟨F,v,q⟩:=t.res hi;have u:St c (M.set i (Cz Ds)) L (w.putObj D (.deferred none)):=by
   refine t.upd hi Z Z Z (by simp) λF d _=>⟨λk _ r=> ?_,F,?_,λ_ h=> .inl h⟩
   ·exact World.putObj_heap_other (λe=>r (e▸(d.2 D (by simp)).1))
   ·obtain⟨p,d⟩:=d;refine⟨(zB6.1 p).2,λE g=>⟨(d E (by simp[g])).1,?_⟩⟩
    rw[World.putObj_heap_other (λe=>(zB6.1 p).1 (by subst e;exact g))];exact(d E (by simp[g])).2
  refine Wx b s.defers (q D (by simp)).2 ?_;have l:(M.set i (Cz Ds))[i]? = some (Cz Ds):=by simp[(List.getElem?_eq_some_iff.1 hi).1]
  have:=mG b l (by rw[List.set_set];exact h) {tmps:=a.tmps,defers:=Al Ds} _ ⟨rfl,s.size,s.slot⟩ u;rcases b with rfl|rfl<;>exact this
def agD {A B:Type} (c:xD) (f:A->B->Sz) (C:A->Prop) (b:A->B->Fr) (e d:A->B->List bF) (a:Act) (w:World):Prop:=∃x y,C x∧Gt (f x y) (b x y) a∧St c (e x y) (d x y) w
theorem CU {A B:Type} {x:Code} (h:A->B->Sz) (C:A->Prop) (d:A->B->Fr) (g f:A->B->List bF) (j:J c n σ M L (x.wpr rd P (Exit.then (agD c h C d g f) Q))) (k:∀a b,C a->J c (h a b) (d a b) (g a b) (f a b) K):
  J c n σ M L (x.wpr rd P (Exit.then K Q)):=λa w s t=>IW (λe i u q=>by
 cases e with
 |normal=>obtain⟨z,y,o,p,r⟩:=q;exact k z y o i u p r
 |exit id=>exact q
 |goto l=>exact q
 |ret=>exact q
 |panic v=>exact q
 |outgrown=>exact q) (j a w s t)
theorem yZ {A B:Type} {e:A->B->Sz} {C:A->Prop} {a:A->B->Fr} {d b:A->B->List bF} (x:A) (y:B) (i:n=e x y) (f:C x) (j:Ah σ (a x y)) (h:a_ M (d x y)) (g:aB [] L (b x y)):J c n σ M L (agD c e C a d b):=
 λ_ _ s t=>⟨x,y,f,i▸s.weak j,t.weakE h g⟩
def agC {A B R:Type} (c:xD) (g:A->B->Sz) (b:A->(A->Option R)->Option R) (r:R) (d:A->B->Fr) (f e:A->B->List bF) (k:Nat) (a:Act) (w:World):Prop:=
 ∃x y,bH b k x=some r∧Gt (g x y) (d x y) a∧St c (f x y) (e x y) w
theorem KM {A B R:Type} {d:Code} (S:A->B->Sz) (j:A->(A->Option R)->Option R) {r:R} {q:Nat} (p:A->B->Fr) (N I:A->B->List bF) (C:A) (E:B) (X:n=S C E) (h:bH j q C=some r)
  (hs:Ah σ (p C E)) (hM:a_ M (N C E)) (hL:aB [] L (I C E))
  (z:∀k a b,j a (bH j k)=some r->J c (S a b) (p a b) (N a b) (I a b) (d.wpr rd P (Exit.then (agC c S j r p N I k) Q))):J c n σ M L ((Code.loop d).wpr rd P Q):=by
 subst X;intro a w s t b k cs aa W Y;have ad:∀m x y a w,bH j m x=some r->Gt (S x y) (p x y) a->St c (N x y) (I x y) w->
   ∃e O T,Q e O T∧ArrivesIn (Machine.fenced P (FR rd)) P (lone (b.atR a (.code d :: .inLoop d::k)) cs w) b k cs e O T:=by
  intro m
  induction m with
  |zero=>intro x y a w U;cases U
  | succ m ih =>
   intro x y a w U hs ht;obtain⟨e,g,i,u,f⟩:=z m x y U a w hs ht b (.inLoop d::k) cs aa W Y;cases e with
   |normal=>
    obtain⟨x',y',V,ab,ac⟩:=u;obtain⟨F,D,H,v,o⟩:=ih x' y' g i V ab ac;exact⟨F,D,H,v,.of_steps (StepsIn.trans f (.one (fenced_calm W Y Z) stepR_inLoop)) o⟩
   |exit id=>exact⟨_,g,i,u,.pass (x:= .inLoop d) Z (λ_ _=> .inl (by simp)) f⟩
   |goto l=>exact⟨_,g,i,u,.pass (x:= .inLoop d) Z (λ_ _=> .inl (by simp)) f⟩
   |ret=>exact⟨_,g,i,u,.pass (x:= .inLoop d) Z (λ_ _=> .inl (by simp)) f⟩
   |panic ch=>exact⟨_,g,i,u,.pass (x:= .inLoop d) Z (λ_ _=> .inl (by simp)) f⟩
   |outgrown=>exact⟨_,g,i,u,.pass (x:= .inLoop d) Z (λ_ _=> .inl (by simp)) f⟩
 obtain⟨e,O,T,u,f⟩:=ad q C E a w h (s.weak hs) (t.weakE hM hL);exact⟨e,O,T,u,.of_steps (.one (fenced_calm W Y Z) stepR_loop) f⟩
theorem HR {A B R:Type} {f:A->B->Sz} {a:A->(A->Option R)->Option R} {r:R} {k:Nat} {b:A->B->Fr} {e d:A->B->List bF} (x:A) (y:B) (j:n=f x y) (h:bH a k x=some r) (l:Ah σ (b x y)) (i:a_ M (e x y)) (g:aB [] L (d x y)):
  J c n σ M L (agC c f a r b e d k):=λ_ _ s t=>⟨x,y,h,j▸s.weak l,t.weakE i g⟩
end
def Gb (b:Nat) (cs:List Value):bF where
 p w S:=S b∧∃T,w.heap[b]? = some (.cells cs.toArray T (0,0))
 mono:=fun⟨c,T,a⟩ h=>by
  obtain⟨d,e⟩:=h b c (zAa.1 a).1;exact⟨d,T,by rw[e];exact a⟩
section
variable {P:Program} {c:xD} {n:Sz} {σ:Fr} {M L:List bF} {d:Option Tmp} {ty:TypeId} {pos:String} {aft:Array Edge} {g:Option (Nat×Bool)} {α:Type} {e:fQ α}
theorem QN [dG P] {T E:TypeId} {u:IntKind} {k v A f B:Nat} {z C:Value} {l:TypeDesc} {x y:Operand} {b:Nat} {i:Int} (q:ev σ x=some (.pointer (some ⟨b,0,none⟩))) (r:ev σ y=some (.int u i))
  (p:dG.tab P T=some ⟨.array k E,v,A,z⟩) (o:dG.tab P E=some ⟨l,f,B,C⟩) (m:(f==0)=false) (h:0<=i∧i<(k:Int)):
  Y P c n σ M L ⟨d,.indexAddr T x y,ty,pos,aft,g⟩ (.pointer (some ⟨b,i.toNat*f,none⟩)):=λa w s t=>by
 have j:f≠0:=by simpa using m
 simp[execOp,s.eval q,s.eval r,Instr.indexAt,asIntOf,(dG.ok p).run_und w,h,Instr.sureAddr,(dG.ok o).run_size w,j,fR]
theorem Wq [dG P] [Inhabited α] {T:TypeId} {E:Nat} {z:Value} {o:TypeDesc} {x:Operand} {b k:Nat} {i:Int} {f:List α} {u:Value} (q:ev σ x=some (.pointer (some ⟨b,i.toNat*1,none⟩)))
  (y:aE M L (Gb b (cellsOf e f))) (A:dG.tab P T=some ⟨o,1,E,z⟩) (B:zB o=false) (C:e.sz=1) (D:(e.enc (at' f i))=[u]) (h:(0<=i∧i<(k:Int))∧f.length=k):
  Y P c n σ M L ⟨d,.load T x,ty,pos,aft,g⟩ u:=λa w s t=>by
 obtain⟨F,j,r,l⟩:=y.st t;have v:(bM b (cellsOf e f) r).p w F:=⟨j,l⟩
 have m:=yO e f i.toNat (at' f i) (mJ h.1.1 (by omega)) 0 u (by rw[D];rfl);rw[C,Nat.add_zero]at m;rw[Nat.mul_one]at q m;simp[execOp,s.eval q,Az (dG.ok A) B (bM.cell v m)]
end
end Go.Sx
namespace Go.Sx
section
variable {P:Program} {M L:List bF} {α β γ:Type} {r:fT α} {s:fT γ} {q:fT β}
def fT.Deep (r:fT α) (q:fT β) (f:α->Value×List β):Prop:=∀{w S es x},r.R w S es x->OJ q w S (f x).1 (f x).2
theorem Fa (q:fT β):(fT.sl q).Deep q (λx=>x):=λh=>h.2
theorem Wm {f:α->Value×List β} (h:r.Deep q f):(r.pair s).Deep q (λx=>f x.1):=by
 rintro w S d x ⟨b,c,rfl,a,_⟩;exact h a
theorem FX {f:α->Value×List β} (h:r.Deep q f):(s.pair r).Deep q (λx=>f x.2):=by
 rintro w S d x ⟨b,c,rfl,_,a⟩;exact h a
theorem yK [Inhabited α] {v:Value} {a:List α} {i:Int} {f:α->Value×List β} (h:aE M L (Sl r v a)) (d:r.Deep q f) (b:0<=i) (c:i<a.length):aE M L (Sl q (f (at' a i)).1 (f (at' a i)).2):=h.mono λ{w U} hs=>by
 obtain⟨g,e,_⟩:=sl_cell hs (mJ b c);exact d e
def LM (s:ByteArray):List Int:=s.data.toList.map λb=>(b.toNat:Int)
theorem DV [dG P] {c:xD} {n:Sz} {l:Fr} {d:Option Tmp} {H:TypeId} {e:String} {b:Array Edge} {g:Option (Nat×Bool)} {T:TypeId} {F G:Nat} {z:Value} {x y:Operand} {s:ByteArray} {f:List Int} {k:IntKind} {i:Int} (D:ev l x=some (.string s)) (E:ev l y=some (.int k i)) (u:dG.tab P T=some ⟨.string,F,G,z⟩) (A:LM s=f) (h:0<=i∧i<f.length):
  Y P c n l M L ⟨d,.index T x y,H,e,b,g⟩ (.int .u8 (at' f i)):=λa w p t=>by
 subst A;obtain⟨I,m⟩:=h;obtain⟨j,rfl⟩:∃j:Nat,i=(j:Int):=⟨i.toNat,by omega⟩
 have o:j<s.data.toList.length:=by unfold LM at m;simp at m ⊢;omega
 have C:j<s.size:=by have:=Lib.size_eq s;simp at o;omega
 have B:s[j]? = some (s.data.toList[j]):=by
  rw[getElem?_pos s j C];rfl
 have v:at' (LM s) (j:Int)=((s.data.toList[j]).toNat:Int):=by
  unfold at' LM;simp[zA6,zA0 o]
 rw[v];simp[execOp,p.eval D,p.eval E,Instr.index,asIntOf,(dG.ok u).run_und w,B]
theorem Tq [dG P] {c:xD} {n:Sz} {j:Fr} {d:Option Tmp} {F:TypeId} {i:String} {e:Array Edge} {g:Option (Nat×Bool)} {T E:TypeId} {A B C D m b:Nat} {z G:Value} {o:TypeDesc} {x l:Operand} {k:Int} (y:ev j x=some (.pointer (some ⟨b,0,none⟩))) (f:ev j l=some (.int .i64 k))
  (v:dG.tab P T=some ⟨.array m E,A,B,z⟩) (u:dG.tab P E=some ⟨o,C,D,G⟩) {q:Int} (h:0<=k∧k<=((m:Nat):Int)∧k<=q):Y P c n j M L ⟨d,.slice T x none (some l) none,F,i,e,g⟩ (.slice (some ⟨b,0,none⟩) k.toNat m):=λa w s t=>by
 have p:0<=k∧k<=(m:Int):=⟨h.1,h.2.1⟩
 simp[execOp,s.eval y,s.eval f,Instr.sliceAt,Instr.slice,(dG.ok v).run_und w,Instr.sliceBounds,Instr.sliceBound,asIntOf,(dG.ok u).run_size w,p,asAddr,Addr.add,Instr.sureAddr]
theorem XR {e:fQ α} {i b T m:Nat} {k:Int} {a:List α} (t:M[i]? = some (bM b (cellsOf e a) T)) (c:e.Fits r) (h:0<=k∧k<=((m:Nat):Int)∧k<=(a.length:Int)) (p:m<=9223372036854775807):aE M L (Sl r (.slice (some ⟨b,0,none⟩) k.toNat m) (a.take k.toNat)):=λw S T U B f C v=>by
 have n:=f i _ t;have o:(a.take k.toNat).length=k.toNat:=by simp;omega
 refine⟨some ⟨b,0,none⟩,m,by rw[o],by rw[o];omega,.inr ⟨b,0,rfl,v _ _ n.1,λj x d=> ?_⟩⟩
 have l:a[j]? = some x:=by
  rw[zAs]at d;split at d
  ·exact d
  ·cases d
 obtain⟨g,D,z,_⟩:=c;refine⟨e.enc x,λq u A=> ?_,z⟩
 have y:=yO e a _ _ l _ _ A;rw[g,Nat.zero_add];exact bM.cell n y
def fT.All (r:fT α) (n:Nat) (g:α->List Value):Prop:=r.sz=n∧∀{w S es x},r.R w S es x->es=g x
theorem Tj {e:fQ α} (h:e.Fits r):r.All e.sz e.enc:=⟨h.1,h.2.1⟩
theorem Tk (q:fT β):(fT.sl q).All 1 (λx=>[x.1]):=⟨rfl,λh=>h.1⟩
theorem OI {n m:Nat} {f:α->List Value} {g:γ->List Value} (h:r.All n f) (k:s.All m g):(r.pair s).All (n+m) (λx=>f x.1++g x.2):=⟨by show r.sz+s.sz=_;rw[h.1,k.1],by
 rintro w S e x ⟨c,d,rfl,a,b⟩;rw[h.2 a,k.2 b]⟩
theorem To [dG P] [Inhabited α] {c:xD} {n:Sz} {B:Fr} {d:Option Tmp} {O:TypeId} {o:String} {k:Array Edge} {g:Option (Nat×Bool)} {T:TypeId} {N q m:Nat} {z:Value} {p:TypeDesc} {x:Operand} {v:Value} {i:Int} {e:List α} {cs:List Value} {f:α->List Value} (K:ev B x=some (F_ v (i.toNat*q))) (G:aE M L (Sl r v e)) (y:r.All m f) (l:f (at' e i)=cs)
  (E:dG.tab P T=some ⟨p,cs.length,N,z⟩) (F:zB p=true) (H:m=q) (h:0<=i∧i<e.length):Y P c n B M L ⟨d,.load T x,O,o,k,g⟩ (.agg cs.toArray):=λa w s t=>by
 obtain⟨C,D⟩:=h;obtain⟨S,h⟩:=G.st t;obtain⟨Q,I,b⟩:=sl_cell h (mJ C D);have:=y.2 I;subst this l;rw[y.1,H]at b;have:=CP (w:=w) (A:=Nh v (i.toNat*q)) (cs:=f (at' e i)) (dG.ok E) F Z (λj u J=>by rw[KW];exact b j u J);simp[execOp,s.eval K,F_,this]
end
end Go.Sx
namespace Go.Sx
open Go.RowKit
section
variable {P:Program} {c:xD} {n:Sz} {σ:Fr} {M L:List bF} {d:Option Tmp} {ty:TypeId} {pos:String} {aft:Array Edge} {g:Option (Nat×Bool)}
def agH (v:Value) (m:Nat):Prop:=∃a e,v = .slice a m e∧(m=0∨∃b f,a=some ⟨b,f,none⟩)
theorem Know.len {f:Type} {r:fT f} {v:Value} {xs:List f} (j:aE M L (Sl r v xs)):∀c w,St c M L w->agH v xs.length:=λc w t=>by
 obtain⟨S,i,cap,k,_,h⟩:=j.st t;exact⟨i,cap,k,h.imp (λh=>by simp[h]) fun⟨b,a,e,_⟩=>⟨b,a,e⟩⟩
theorem QO [dG P] {T E:TypeId} {B C k D m:Nat} {z F:Value} {o:TypeDesc} {x y:Operand} {v:Value} {i:Int} (u:ev σ x=some v) (A:ev σ y=some (.int .i64 i)) (f:agH v m)
  (s:dG.tab P T=some ⟨.slice E,B,C,z⟩) (r:dG.tab P E=some ⟨o,k,D,F⟩) (h:0<=i∧i<(m:Int)):Y P c n σ M L ⟨d,.indexAddr T x y,ty,pos,aft,g⟩ (F_ v (i.toNat*k)):=λa w l t=>by
 obtain⟨G,e,rfl,f⟩:=f;obtain⟨p,q⟩:=h;rcases f with rfl|⟨b,j,rfl⟩
 ·omega
 ·simp[execOp,l.eval u,l.eval A,JH w (dG.ok s) Z (dG.ok r) b j _ e i p q]
theorem Lv [dG P] (i:Nat) {T j:TypeId} {H m o b:Nat} {z:Value} {q:TypeDesc} {x y:Operand} {cs e us:List Value} {u:Value} (E:ev σ x=some (.pointer (some ⟨b,o,none⟩))) (G:ev σ y=some u) (l:u.cells=us.toArray) (B:us.length=m)
  (r:us.all one=true) (p:M[i]? = some (bM b cs j)) (A:dG.tab P T=some ⟨q,m,H,z⟩) (C:Nat.ble (o+m) cs.length=true) (k:cs.take o++us++cs.drop (o+m)=e):
  aI P c n σ M L ⟨none,.store T x y,ty,pos,aft,none⟩ (λ_:Unit=>undef) (λ_=>M.set i (bM b e j)) (λ_=>L):=λa w s t=>by
 subst B k;obtain⟨F,v⟩:=t.res p;have D:o+us.length<=cs.length:=by simpa using C
 have h:=run_storeCells_at P b o j us 0 cs.toArray w v.2 (by simp;omega) (λu l=>qG (zA5.1 r u l));simp only[Nat.add_zero]at h;have f:(execOp a.eval ⟨none,.store T x y,ty,pos,aft,none⟩).run P w = .ok .skip (w.setRow b (cs.take o++us++cs.drop (o+us.length)).toArray):=by
  simp[execOp,s.eval E,s.eval G,Instr.storeAt,Instr.sureAddr,storeVar,l,(dG.ok A).run_size w,h]
 simp only[Oper.wp,f,Oper.upon];exact⟨(),trivial,t.fill p⟩
theorem MJ {a:Type} [Inhabited a] (l:List a) (k:Int) (h:k.toNat<l.length) (b:0<=k):l.set k.toNat (at' l k)=l:=by
 have:=mJ (xs:=l) b (by omega);refine List.ext_getElem? λi=> ?_;by_cases e:k.toNat=i
 ·subst e;rw[zAm h,this]
 ·rw[zAy e]
theorem E_ [dG P] {l:Type} [Inhabited l] {e:fQ l} (j:Nat) {T:TypeId} {Q m o q:Nat} {z:Value} {C:TypeDesc} {x y:Operand} {u:Value} {us:List Value} {i k:Int} {vs:List Value} {b:List (List l)} (f:l) (A:0<=k∧k<b.length) (h:0<=i∧i<(at' b k).length) (N:ev σ x=some (F_ (at' vs k) (i.toNat*q+o))) (O:ev σ y=some u)
  (v:M[j]? = some (nH e vs b)) (I:e.sz=q) (K:u.cells=us.toArray) (G:us.length=m) (H:Nat.ble (o+m) q=true) (B:e.enc f=(e.enc (at' (at' b k) i)).take o++us++(e.enc (at' (at' b k) i)).drop (o+m)) (p:us.all one=true) (D:dG.tab P T=some ⟨C,m,Q,z⟩):
  aI P c n σ M L ⟨none,.store T x y,ty,pos,aft,none⟩ (λ_:Unit=>undef) (λ_=>M.set j (nH e vs (b.set k.toNat ((at' b k).set i.toNat f)))) (λ_=>L):=λa w s t=>by
 have U:=eH j v c w t;have F:j<M.length:=(List.getElem?_eq_some_iff.1 v).1;refine qF (λS R ⟨x,E,J⟩=>⟨x,E,?_⟩) (EZ 0 f h N O Z I K G H B p D a w s (QJ j v A c w t));have r:=QF (j+1) 0 (u:=at' vs k) (k:=k) (vs:=vs) (xss:=b) (ys:=(at' b k).set i.toNat f) (e:=e) Z (by simp[F]) Z (by simpa using A) c R J;simp only[List.set_cons_zero,List.set_cons_succ,List.eraseIdx_cons_zero,List.set_set]at r;rw[MJ vs k (by omega) A.1]at r;exact r
end
theorem a_.ix {M a:List bF} (l:List Nat) (c:decide l.Nodup=true) (h:l.map (λi=>M[i]?)=a.map some):a_ M a:=by
 have c:l.Nodup:=of_decide_eq_true c;have k:l.length=a.length:=by simpa using congrArg List.length h
 refine⟨λi=>l.getD i 0,λi j b n e=> ?_,λi m d=> ?_⟩
 ·have f:i<l.length:=by omega
  have g:j<l.length:=by omega
  simp only[zA6,zA0 f,zA0 g,Option.getD_some]at e;exact(List.getElem_inj c).1 e
 ·have b:i<l.length:=by rw[k];exact(List.getElem?_eq_some_iff.1 d).1
  have:=congrArg (λq=>q[i]?) h;simp only[List.getElem?_map,zA0 b,d,Option.map_some,Option.some.injEq]at this;simpa [zA6,zA0 b]using this
def fQ.fn:fQ Nat:=⟨1,Nat.one_pos,λf=>[.func (.func f) #[] #[]],λ_=>rfl⟩
def fT.fn:fT Nat:=⟨1,Nat.one_pos,λ_ _ cs x=>cs=[.func (.func x) #[] #[]],λh=>by simp[h],λh _=>h⟩
theorem Qo:fQ.fn.Fits fT.fn:=⟨rfl,λh=>h,rfl,λ_=>rfl⟩
section
variable {P:Program} {rd:Option Nat} {c:xD} {n:Sz} {σ:Fr} {M L:List bF} {Q:Exit->Act->World->Prop} {ops:Array Oper} {rest:List Oper} {d:Nat} {ty:TypeId} {pos:String} {aft:Array Edge} {x y:Operand} {v:Value} {K:Act->World->Prop}
abbrev vS (x:ByteArray):Value:= .string x
abbrev vB (x:Bool):Value:= .bool x
theorem dQ {a:Type} {p G:Prop} {_:Decidable p} {u:Option a} {r:a} (h:ck p u=some r) (k:p->u=some r->G):G:=k (Pd h).1 (Pd h).2
theorem dV {a b:Type} {G:Prop} {u:Option a} {f:a->Option b} {r:b} (h:u.bind f=some r) (k:∀y,u=some y->f y=some r->G):G:=by
  obtain⟨y,e,g⟩:=bnd h;exact k y e g
theorem kA (l:List Nat) {a:List bF} (h:l.map (L[·]?)=a.map some):aB M L a:=λf b=>by
  have g:some f∈l.map (L[·]?):=h▸List.mem_map_of_mem b;obtain⟨j,_,e⟩:=zAn.1 g;exact aE.fact j e
theorem Bz.ix (l:List Nat) {a:List bF} (h:l.map (L[·]?)=a.map some):Bz L a:=λf b=>by
  have g:some f∈l.map (L[·]?):=h▸List.mem_map_of_mem b;obtain⟨j,_,e⟩:=zAn.1 g;exact zAv e
theorem hZ {f:bF} (i:Nat) (h:L[i]? = some f):Bz L [f]:=Bz.cons (zAv h) Bz.nil
/-- which of the early loads must still hold,with the numbers of what they have read -/
def bsW (A:Nat->Bool):List (List Nat×List Nat)->List (Nat×List bF×List bF)->List (List Nat×List Nat×List bF×List bF)
  |_,[]=>[]
  |q,(j,Mx,Lx)::B=>bif A j||(Mx.isEmpty&&Lx.isEmpty)then bsW A q B else((q.headD ([],[])).1,(q.headD ([],[])).2,Mx,Lx)::bsW A q.tail B
theorem jD {A:Nat->Bool} (q:List (List Nat×List Nat)) {B:List (Nat×List bF×List bF)} (h:(bsW A q B).map (λz=>(decide z.1.Nodup,z.1.map (M[·]?),z.2.1.map (L[·]?)))=(bsW A q B).map (λz=>(true,z.2.2.1.map some,z.2.2.2.map some))):Di A M L B:=by
  induction B generalizing q with
  |nil=>exact Di.z
  | cons b B ih =>
    obtain⟨j,k,i⟩:=b;cases a:A j with
    |true=>exact Di.b a (ih q (by simpa [bsW,a]using h))
    | false =>
      cases g:(k.isEmpty&&i.isEmpty)with
      | true =>
        obtain⟨e,f⟩:=Bool.and_eq_true_iff.1 g;rw[List.isEmpty_iff]at e f;subst e;subst f;exact Di.h a_.nil Bz.nil (ih q (by simpa [bsW,a]using h))
      | false =>
        simp only[bsW,a,g,Bool.or_self,cond_false,zB8,List.cons.injEq,Prod.mk.injEq]at h;exact Di.h (a_.ix _ h.1.1 h.1.2.1) (Bz.ix _ h.1.2.2) (ih q.tail h.2)
def hkB (A:Nat->Bool):List (Nat×List bF×List bF)->Bool
  | []=>true
  |(j,_,_)::H=>bif A j then hkB A H else false
theorem Jt {A:Nat->Bool} {f e:List bF} {H:List (Nat×List bF×List bF)} (h:hkB A H=true):aN A f e H:=by
  induction H with
  |nil=>exact aN.z
  | cons b B ih =>
    obtain⟨j,_,_⟩:=b;cases a:A j with
    |false=>simp[hkB,a]at h
    |true=>exact aN.b a (ih (by simpa [hkB,a]using h))
theorem hkN {A:Nat->Bool} {H:List (Nat×List bF×List bF)}:aN A [] [] H:=by
  induction H with
  |nil=>exact aN.z
  |cons b B a=>exact aN.h a_.nil Bz.nil a
theorem eK {T:Operand} (h:(ev σ T,ev σ x,Nat.blt d n.sz)=(some (.bool true),some v,true)) (k:J c n ((d,v)::σ) M L (wpList P ops Q rest)):J c n σ M L (wpList P ops Q (⟨some d,.pick T x y,ty,pos,aft,none⟩::rest)):=by
  simp only[Prod.mk.injEq]at h;exact aD (KS h.1 h.2.1) h.2.2 k
theorem fY {T:Operand} (h:(ev σ T,ev σ y,Nat.blt d n.sz)=(some (.bool false),some v,true)) (k:J c n ((d,v)::σ) M L (wpList P ops Q rest)):J c n σ M L (wpList P ops Q (⟨some d,.pick T x y,ty,pos,aft,none⟩::rest)):=by
  simp only[Prod.mk.injEq]at h;exact aD (KR h.1 h.2.1) h.2.2 k
theorem iU {vs:List Value} {i:Nat} (h:(ev σ x,vs[i]?,Nat.blt d n.sz)=(some (.tuple vs.toArray),some v,true)) (k:J c n ((d,v)::σ) M L (wpList P ops Q rest)):J c n σ M L (wpList P ops Q (⟨some d,.extract x i,ty,pos,aft,none⟩::rest)):=by
  simp only[Prod.mk.injEq]at h;exact aD (fZ h.1 h.2.1) h.2.2 k
theorem pC {t a:TypeId} {i:IntKind} {p q:Int} (h:(ev σ x,ev σ y,Nat.blt d n.sz)=(some (.int i p),some (.int i q),true)) (k:J c n ((d,.bool (decide (p≠q)))::σ) M L (wpList P ops Q rest)):J c n σ M L (wpList P ops Q (⟨some d,.binOp .neq t x y a,ty,pos,aft,none⟩::rest)):=by
  simp only[Prod.mk.injEq]at h;exact aD (Bq h.1 h.2.1) h.2.2 k
theorem Bt {t a:TypeId} {i:IntKind} {p q:Int} (h:(ev σ x,ev σ y,Nat.blt d n.sz)=(some (.int i p),some (.int i q),true)) (k:J c n ((d,.int i (eW i p q))::σ) M L (wpList P ops Q rest)):J c n σ M L (wpList P ops Q (⟨some d,.binOp .and t x y a,ty,pos,aft,none⟩::rest)):=by
  simp only[Prod.mk.injEq]at h;exact aD (UA h.1 h.2.1) h.2.2 k
theorem gS [dG P] {b:Type} {r:fT b} {T E:TypeId} {f g:Nat} {z:Value} {a:List b} (e:aE M L (Sl r v a)) (h:(ev σ x,dG.tab P T,Nat.blt d n.sz)=(some v,some ⟨.slice E,f,g,z⟩,true)) (k:J c n ((d,.int .i64 a.length)::σ) M L (wpList P ops Q rest)):J c n σ M L (wpList P ops Q (⟨some d,.call ⟨.builtin .len,#[x],#[T]⟩,ty,pos,aft,none⟩::rest)):=by
  simp only[Prod.mk.injEq]at h;exact aD (fF h.1 e h.2.1) h.2.2 k
variable {l:List Oper} {m:List Nat} {k0:Nat} {H Bs:List (Nat×List bF×List bF)} {rs:List Nat}
theorem gO {i a:Nat} {b:Op} (f:l[i]? = some ⟨some a,b,ty,pos,aft,none⟩) (k:Y P c n σ [] [] ⟨some a,b,ty,pos,aft,none⟩ v)
    (h:JR c n ((a,v)::σ) M L H ((i,[],[])::Bs) (RW P l.toArray Q (before m) (dW l) k0 rs))
    (g:Nat.blt i k0=true:=by exact rfl) (j:e_ b=false:=by exact rfl) (e:Nat.blt a n.sz=true:=by exact rfl):JR c n σ M L H Bs (RW P l.toArray Q (before m) (dW l) k0 (i::rs)):=bG f a_.nil Bz.nil k hkN h g j e
end
end Go.Sx
namespace Go.Sx
abbrev aO:=List Int
abbrev cC:=List (Int×Int)
abbrev bX:=List aO
abbrev g_:=List cC
abbrev JS:=(ByteArray×(List (ByteArray×Int×Int×Int×Int×Int))×(List (ByteArray×(Value×cC)×(Value×List (Int×(Value×cC))))))×((ByteArray×(List (ByteArray×Int×Int×Int×Int×Int))×(List (ByteArray×(Value×cC)×(Value×List (Int×(Value×cC))))))×(aO×g_)×Int×bX)×g_
abbrev DG:=ByteArray×(List (ByteArray×Int×Int×Int×Int×Int))×(List (ByteArray×(Value×cC)×(Value×List (Int×(Value×cC)))))
abbrev Qj:=((ByteArray×(List (ByteArray×Int×Int×Int×Int×Int))×(List (ByteArray×(Value×cC)×(Value×List (Int×(Value×cC))))))×(aO×g_)×Int×bX)×bX×Int×cC
abbrev b_:=aO×g_
abbrev jO:=List (Value×cC)
abbrev Ez:=((aO×aO×bX×(Int×Int×Int×Int×Int))×Int)
abbrev Xp:=(ByteArray×(List (ByteArray×Int×Int×Int×Int×Int))×(List (ByteArray×(Value×cC)×(Value×List (Int×(Value×cC))))))×(aO×g_)×Int×bX
abbrev sY:=List (Value×aO)
abbrev adG:=(((ByteArray×(List (ByteArray×Int×Int×Int×Int×Int))×(List (ByteArray×(Value×cC)×(Value×List (Int×(Value×cC))))))×(aO×g_)×Int×bX)×bX×Int×cC)
abbrev EU:=Int×aO×aO×aO×Bool×Bool
abbrev Bd:=((Int×Bool×Bool×Int×Int))
abbrev eC:=Int×Int
abbrev gW:=(Int×Int)
abbrev Hc:=List (ByteArray×Int×Int×Int×Int×Int)
abbrev Sw:=(ByteArray×List (ByteArray×Int×Int×Int×Int×Int)×List (cC×List (Int×cC)))
abbrev eT:=List Nat
abbrev FP:=ByteArray×Int×Int×Int×Int×Int
abbrev jB:=List Value
abbrev wB:=((aO×g_))
abbrev lZ:=Int×aO
abbrev rZ:=(Int×aO)
abbrev Ks:=Int×(List ((Int×Int)×Int))
abbrev He:=Int×Int×Int×Int×Int
abbrev Nb:=List (cC×List (Int×cC))
abbrev Ot:=(Int×(List ((Int×Int)×Int)))
abbrev VR:=Int×Int×Int×Int×Int×Int×aO×aO×bX
abbrev VS:=((List (ByteArray×Int×Int×Int×Int×Int)))
abbrev VT:=(List (ByteArray×Int×Int×Int×Int×Int))
abbrev VU:=(ByteArray×Int×Int×Int×Int×Int)
abbrev EK:=(aO×g_)
abbrev IS:=List (Nat×Nat)
abbrev lE:Value:=Value.slice none 0 0
abbrev GI:List Value:=[lE,lE,lE,vI (0:Int),vI (0:Int),vI (0:Int),vI (0:Int),vU (0:Int)]
abbrev VX:List Value:=[vI (0:Int),vB (false),vB (false),vI (0:Int),vI (0:Int)]
abbrev Ni:List Value:=[vI (0:Int),vI (0:Int)]
abbrev vD3:List Value:=[vI (0:Int),vI (0:Int),vI (0:Int),vI (0:Int),vU (0:Int)]
abbrev vD4:List Value:=[Value.pointer none,lE,vI (0:Int),vU (0:Int),Value.nilFunc]
abbrev vD5:List Value:=[vS (ByteArray.mk #[]),vI (0:Int),vI (0:Int),vI (0:Int),vI (0:Int),vI (0:Int)]
end Go.Sx
namespace Go.Sx
open Go.RowKit
section
variable {P:Program} {c:xD} {n:Sz} {σ:Fr} {M L:List bF} {d:Option Tmp} {ty:TypeId} {pos:String} {aft:Array Edge} {g:Option (Nat×Bool)} {α:Type} {e:fQ α}
theorem AR [dG P] {T:TypeId} {G H l m:Nat} {z o:Value} {j:Array Field} {E I F:String} {r:Bool} {k b p:Nat} {h:TypeDesc} {x:Operand} {vs:List Value} {v:Value} {f:Nat} (D:ev σ x=some (.agg vs.toArray))
  (y:dG.tab P T=some ⟨.struct j,G,H,z⟩) (B:j[f]? = some ⟨E,k,b,r,I,F,p⟩) (u:dG.tab P k=some ⟨h,l,m,o⟩) (A:zB h=false) (C:vs[b]? = some v):
  Y P c n σ M L ⟨d,.field T x f,ty,pos,aft,g⟩ v:=λa w s t=>by
 have i:=(dG.ok u).run_agg w;have q:zB (Ty.mk h l m o).desc=false:=A;rw[q]at i;simp[execOp,s.eval D,Instr.field,(dG.ok y).run_und w,B,asAgg,part,i,C]
end
def Iz (m:eT):eT->List (List Nat)
 | []=>[[]]
 |x::xs=>((Iz m xs).flatMap (Ee x)).filter (pw m)
theorem Kk (x:Nat):∀(l:eT) (s:eT),s∈Ee x l->s.Perm (x::l)
 | [],s,h=>by simp[Ee]at h;subst h;exact List.Perm.refl _
 |y::l,s,h=>by
  simp only[Ee,zAk,zAn]at h;rcases h with rfl|⟨q,a,rfl⟩
  ·exact List.Perm.refl _
  ·exact((Kk x l q a).cons y).trans (List.Perm.swap x y l)
theorem Fe:∀(l s:eT),s∈yM l->s.Perm l
 | [],s,h=>by simp[yM]at h;subst h;exact List.Perm.refl _
 |x::l,s,h=>by
  simp only[yM,List.mem_flatMap]at h;obtain⟨q,a,b⟩:=h;exact(Kk x q s b).trans ((Fe l q a).cons x)
theorem VE (m:eT) (x:Nat) (b:eT):∀a:eT,pw m (a++x::b)=true->pw m (a++b)=true
 | [],h=>by simp only[List.nil_append,pw,zA4]at h;exact h.2
 |y::a,h=>by
  simp only[List.cons_append,pw,zA4,List.all_append,List.all_cons]at h ⊢;exact⟨⟨h.1.1,h.1.2.2⟩,VE m x b a h.2⟩
theorem Ko (m:eT):∀(l s:eT),s.Perm l->pw m s=true->s∈Iz m l
 | [],s,h,_=>by simp[Iz,h.eq_nil]
 | x :: l, s, h, hp => by
  have d:x∈s:=h.symm.subset zA7;obtain⟨a,b,rfl⟩:=List.append_of_mem d;have c:(a++b).Perm l:=by
   have:(x::(a++b)).Perm (x::l):=(List.perm_middle.symm).trans h;exact(List.perm_cons x).1 this
  simp only[Iz,List.mem_filter,List.mem_flatMap];exact⟨⟨a++b,Ko m l _ c (VE m x b a hp),Hx x b a⟩,hp⟩
def YE (l:List Oper) (m:eT) (a:List (List Nat)):Bool:=
 (a.all λL=>pw m L&&L.all (λi=>Nat.blt i l.length)&&(List.range l.length).all (λi=>L.contains i)) &&
 ((Iz m ((List.range l.length).filter (dW l))).all λs=>a.any λL=>L.filter (dW l)==s)
theorem YF {l:List Oper} {m:eT} {a:List (List Nat)} (h:YE l m a=true):Q_ l m a=true:=by
 simp only[YE,Q_,zA4]at h ⊢;refine⟨h.1,zA5.2 λs c=> ?_⟩
 cases b:pw m s with
 |false=>rfl
 |true=>exact zA5.1 h.2 s (Ko m _ s (Fe _ s c) b)
end Go.Sx
namespace Go.Proofs.YtcnnfkapmjhnaaaGreatDoor
open Go.Sx
def IY:aO:=[0,1,1,2,1,2,2,3,1,2,2,3,2,3,3,4,1,2,2,3,2,3,3,4,2,3,3,4,3,4,4,5,1,2,2,3,2,3,3,4,2,3,3,4,3,4,4,5,2,3,3,4,3,4,4,5,3,4,4,5,4,5,5,6,1,2,2,3,2,3,3,4,2,3,3,4,3,4,4,5,2,3,3,4,3,4,4,5,3,4,4,5,4,5,5,6,2,3,3,4,3,4,4,5,3,4,4,5,4,5,5,6,3,4,4,5,4,5,5,6,4,5,5,6,5,6,6,7,1,2,2,3,2,3,3,4,2,3,3,4,3,4,4,5,2,3,3,4,3,4,4,5,3,4,4,5,4,5,5,6,2,3,3,4,3,4,4,5,3,4,4,5,4,5,5,6,3,4,4,5,4,5,5,6,4,5,5,6,5,6,6,7,2,3,3,4,3,4,4,5,3,4,4,5,4,5,5,6,3,4,4,5,4,5,5,6,4,5,5,6,5,6,6,7,3,4,4,5,4,5,5,6,4,5,5,6,5,6,6,7,4,5,5,6,5,6,6,7,5,6,6,7,6,7,7,8]
theorem Pa:LM (ByteArray.mk #[0,1,1,2,1,2,2,3,1,2,2,3,2,3,3,4,1,2,2,3,2,3,3,4,2,3,3,4,3,4,4,5,1,2,2,3,2,3,3,4,2,3,3,4,3,4,4,5,2,3,3,4,3,4,4,5,3,4,4,5,4,5,5,6,1,2,2,3,2,3,3,4,2,3,3,4,3,4,4,5,2,3,3,4,3,4,4,5,3,4,4,5,4,5,5,6,2,3,3,4,3,4,4,5,3,4,4,5,4,5,5,6,3,4,4,5,4,5,5,6,4,5,5,6,5,6,6,7,1,2,2,3,2,3,3,4,2,3,3,4,3,4,4,5,2,3,3,4,3,4,4,5,3,4,4,5,4,5,5,6,2,3,3,4,3,4,4,5,3,4,4,5,4,5,5,6,3,4,4,5,4,5,5,6,4,5,5,6,5,6,6,7,2,3,3,4,3,4,4,5,3,4,4,5,4,5,5,6,3,4,4,5,4,5,5,6,4,5,5,6,5,6,6,7,3,4,4,5,4,5,5,6,4,5,5,6,5,6,6,7,4,5,5,6,5,6,6,7,5,6,6,7,6,7,7,8])=IY:=by kernel_rfl
def AA:aO:=[0,1,28,2,29,14,24,3,30,22,20,15,25,17,4,8,31,27,13,23,21,19,16,7,26,12,18,6,11,5,10,9]
theorem _root_.Go.Sx.Y.bld5 {P:Program} {c:xD} {n:Sz} {a:Fr} {M L:List bF} {d:Option Tmp} {E:TypeId} {k:String} {j:Array Edge} {g:Option (Nat×Bool)} {T:TypeId} {b e f h i:Nat} {s t u v x:Operand} {l m o p q:Value} {r:Value} (y:ev a s=some l) (z:ev a t=some m) (A:ev a u=some o) (B:ev a v=some p) (C:ev a x=some q) (D:∀w,(Instr.build T ([(b,l),(e,m),(f,o),(h,p),(i,q)]:List (Nat×Value)).toArray).run P w = .ok r w):Y P c n a M L ⟨d,.build T #[(b,s),(e,t),(f,u),(h,v),(i,x)],E,k,j,g⟩ r:=
 BG (ps:=[(b,s),(e,t),(f,u),(h,v),(i,x)]) (vs:=[(b,l),(e,m),(f,o),(h,p),(i,q)]) (by simp[y,z,A,B,C]) D
abbrev ESt:fQ ByteArray:=⟨1,Nat.one_pos,λx=>[.string x],λ_=>rfl⟩
abbrev RSt:fT ByteArray:=⟨1,Nat.one_pos,λ_ _ a x=>a=[.string x],λh=>by simp[h],λh _=>h⟩
theorem FSt:ESt.Fits RSt:=⟨rfl,λh=>h,rfl,λ_=>rfl⟩
abbrev cB:fQ Int:=fQ.int .i64
abbrev bP:fT Int:=fT.int .i64
theorem cD:cB.Fits bP:=HQ .i64
theorem cT:bP.Cell 0 (λx=> .int .i64 x):=HW .i64
abbrev gU:fQ VU:=fQ.pair ESt (fQ.pair cB (fQ.pair cB (fQ.pair cB (fQ.pair cB (cB)))))
abbrev aX:fT VU:=fT.pair RSt (fT.pair bP (fT.pair bP (fT.pair bP (fT.pair bP (bP)))))
theorem fH:gU.Fits aX:=qM FSt (qM cD (qM cD (qM cD (qM cD (cD)))))
theorem Ak:aX.Cell 1 (λx=> .int .i64 x.2.1):=dM (rB (cT))
theorem EL:aX.Cell 2 (λx=> .int .i64 x.2.2.1):=dM (dM (rB (cT)))
theorem EM:aX.Cell 3 (λx=> .int .i64 x.2.2.2.1):=dM (dM (dM (rB (cT))))
theorem EN:aX.Cell 4 (λx=> .int .i64 x.2.2.2.2.1):=dM (dM (dM (dM (rB (cT)))))
theorem EO:aX.Cell 5 (λx=> .int .i64 x.2.2.2.2.2):=dM (dM (dM (dM (dM (cT)))))
abbrev bT:fQ gW:=fQ.pair cB (cB)
abbrev aV:fT gW:=fT.pair bP (bP)
theorem bD:bT.Fits aV:=qM cD (cD)
theorem sF:aV.Cell 0 (λx=> .int .i64 x.1):=rB (cT)
theorem Hk:aV.Cell 1 (λx=> .int .i64 x.2):=dM (cT)
abbrev tC:fT (Int×(Value×cC)):=fT.pair bP ((fT.sl aV))
theorem Nj:tC.All 2 (λx=>[Value.int .i64 (x.1),x.2.1]):=(OI (Tj cD) (Tk aV))
theorem EB:tC.Deep aV (λx=>x.2):=FX (Fa aV)
abbrev aM:fT (ByteArray×(Value×cC)×(Value×List (Int×(Value×cC)))):=fT.pair RSt (fT.pair (fT.sl aV) ((fT.sl tC)))
theorem Bv:aM.Cell 1 (λx=>x.2.1.1):=dM (rB (fT.sl_cell aV))
theorem By:aM.Deep aV (λx=>x.2.1):=FX (Wm (Fa aV))
theorem Bw:aM.Cell 2 (λx=>x.2.2.1):=dM (dM (fT.sl_cell tC))
theorem h_:aM.Deep tC (λx=>x.2.2):=FX (FX (Fa tC))
abbrev EBo:fQ Bool:=fQ.bool
abbrev EFn:fQ Nat:=fQ.fn
abbrev RFn:fT Nat:=fT.fn
theorem FFn:EFn.Fits RFn:=Qo
abbrev KI:fQ (Int×Nat):=fQ.pair cB (EFn)
abbrev abd:fT (Int×Nat):=fT.pair bP (RFn)
theorem CB:KI.Fits abd:=qM cD (FFn)
abbrev pX:fQ Int:=fQ.int .u32
abbrev DO:fT Int:=fT.int .u32
theorem mU:pX.Fits DO:=HQ .u32
theorem Je:DO.Cell 0 (λx=> .int .u32 x):=HW .u32
abbrev KJ:fQ Int:=fQ.int .u8
def SC (x:Int):Value:=Value.int .i64 (x)
def pD (x:eC):Value:=Value.agg #[Value.int .i64 (x.1),Value.int .i64 (x.2)]
theorem acW (x y:eC) (m:Nat) (w:World):(Op.equalIn (m+2) 58 (.agg #[.int .i64 x.1,.int .i64 x.2]) (.agg #[.int .i64 y.1,.int .i64 y.2])).run Tryz.prog w = .ok (decide (x=y)) w:=by
 have c:∀a b:Int,(Op.equalIn (m+1) 3 (.int .i64 a) (.int .i64 b)).run Tryz.prog w = .ok (a==b) w:=by
  intro a b;simp[Op.equalIn]
 unfold Op.equalIn;simp[show List.range' 0 2=[0,1]from rfl,part,isAgg,c];obtain⟨d,e⟩:=x;obtain⟨f,g⟩:=y;by_cases h:d=f<;>by_cases i:e=g<;>simp[h,i,c]
theorem acv (b:Bool) (k:eC) (w:World):(Instr.checkKey b 10000 58 (pD k)).run Tryz.prog w = .ok () w:=by
 have a:∀m:Nat,(Instr.checkKey b (m+2) 58 (pD k)).run Tryz.prog w = .ok () w:=by
  intro m;simp[Instr.checkKey,pD,part,isAgg,show List.range' 0 2=[0,1]from rfl]
 exact a 9998
theorem TT:Lt Tryz.prog 58 pD:=Td Tryz.underlying58 acv (λ_ _=>rfl) (λa b w=>acW a b 9998 w) (λk=>by
 have c:∀m:Nat,Instr.sameBits (m+2) (pD k) (pD k)=true:=λm=>by simp[Instr.sameBits,pD]
 exact c 9998)
theorem rK (b:Value) (c:one b=true) (a:Array Value) (h:a.size=1*1):Instr.fill (λi=>some (i*1,1)) a [(0,b)]=some [b].toArray:=by
 obtain⟨l⟩:=a
 match l,h with
 | [z0],_=>simp[Instr.fill,kX c]
theorem AU (b c:Value) (a:Array Value) (h:a.size=1*2):Instr.fill (λi=>some (i*2,2)) a [(0,.agg #[b,c])]=some [b,c].toArray:=by
 obtain⟨l⟩:=a
 match l,h with
 | [z0,z1],_=>simp[Instr.fill,Value.cells]
theorem Ft (b c:Value) (d:one b=true) (e:one c=true) (a:Array Value) (h:a.size=2*1):Instr.fill (λi=>some (i*1,1)) a [(0,b),(1,c)]=some [b,c].toArray:=by
 obtain⟨l⟩:=a
 match l,h with
 | [z0,z1],_=>simp[Instr.fill,kX d,kX e]
theorem Ma (d e f g j k m n o p b c:Value) (a:Array Value) (h:a.size=2*6):Instr.fill (λi=>some (i*6,6)) a [(0,.agg #[d,e,f,g,j,k]),(1,.agg #[m,n,o,p,b,c])]=some [d,e,f,g,j,k,m,n,o,p,b,c].toArray:=by
 obtain⟨l⟩:=a
 match l,h with
 | [z0,z1,z2,z3,z4,z5,z6,z7,z8,z9,z10,z11],_=>simp[Instr.fill,Value.cells]
theorem YW (b c d e f g:Value) (a:Array Value) (h:a.size=3*2):Instr.fill (λi=>some (i*2,2)) a [(0,.agg #[b,c]),(1,.agg #[d,e]),(2,.agg #[f,g])]=some [b,c,d,e,f,g].toArray:=by
 obtain⟨l⟩:=a
 match l,h with
 | [z0,z1,z2,z3,z4,z5],_=>simp[Instr.fill,Value.cells]
def AO (a:Int) (b:Bool):Option (Int):=
 if b=true then(some (-1:Int))else(if a<=(17:Int)then(some (0:Int))else(if a<=(29:Int)then(some (1:Int))else(if a<=(42:Int)then(some (2:Int))else(some (3:Int)))))
def zT (U:Nat) (a:Int):Option (Int):=
 if a<(1:Int)then(AO a (true))else(AO a (decide ((43:Int)<a)))
theorem aci:aS Tryz.prog 283:=Tryz.call283
theorem Qh (U:Nat) {b:Int} (r:Int) (h:zT U b=some r):
  aY Tryz.prog 283 #[vI (b)] [] (λx:Unit=>vI (r)) (λx l=>l) (λ_ l=>l):=by
 refine aY.of Tryz.func283 Z Tryz.ntmps283 Z λc=>?_;refine aP<|aC Z<|aJ<|aK<|aR<|aK<|eJ (λa=>AO b a=some r) (λa d=>[(0,vI (b)),(3,vB (a))]) (λa d=>[]) ?_ ?_
 ·refine aQ<|aA Z<|cO Z<|aA Z ?_;refine Eb h Z (λ_ h=>?_) λ_ h=>?_
  ·refine aL Z<|aL Z<|eK Z<|aC Z<|aJ ?_;exact iH (true) () h SF Z
  refine eG Z<|aW Z (Bp Z Z) Z<|fY Z<|aC Z<|aJ ?_;exact iH (decide ((43:Int)<b)) () h SF Z
 intro a d h;refine yW h Z (λ_ h=>?_) λ_ h=>?_
 ·refine aP<|aC Z<|aJ<|aU<|bN<|aH ?_;cases h;exact kY Z
 refine aP<|aA Z<|aD (Dn Z Z) Z<|aC Z<|aJ ?_;refine dK h Z (λh=>?_) λh=>?_
 ·refine aP<|aC Z<|aJ<|aU<|bN<|aH ?_;cases h;exact kY Z
 refine aP<|aA Z<|aD (Dn Z Z) Z<|aC Z<|aJ ?_;refine dK h Z (λh=>?_) λh=>?_
 ·refine aP<|aC Z<|aJ<|aU<|bN<|aH ?_;cases h;exact kY Z
 refine aP<|aA Z<|aD (Dn Z Z) Z<|aC Z<|aJ ?_;refine dK h Z (λh=>?_) λh=>?_
 ·refine aP<|aC Z<|aJ<|aU<|bN<|aH ?_;cases h;exact kY Z
 refine dD<|lU<|aP<|aC Z<|aJ<|aU ?_;cases h;exact kY Z
def FN  (a:Unit):Option (Int):=
 some (-1:Int)
def mT (U:Nat) (d:cC) (a:eC) (c:gW->Option (Int)):Option (Int):=
 if a.1<(d.length:Int)then(ck (0<=a.1∧a.1<(d.length:Int)) (Option.bind (zT U ((at' d a.1).1)) λb=>(if b<(0:Int)then(some (-1:Int))else(if(wI .i64 (a.2+(wI .i64 (b - (1:Int)))))=(0:Int)then(some (wI .i64 (a.1+(1:Int))))else(c ((wI .i64 (a.1+(1:Int))),(wI .i64 (a.2+(wI .i64 (b - (1:Int)))))))))))else(FN  (()))
def CR (U:Nat) (b:cC) (c:Int) (a:Bool):Option (Int):=
 if a=true then(some (-1:Int))else(bH (mT U b) U (c,(1:Int)))
def Ej (U:Nat) (b:cC) (a:Int):Option (Int):=
 if a<(0:Int)then(CR U b a (true))else(CR U b a (decide ((b.length:Int)<=a)))
theorem ach:aS Tryz.prog 270:=Tryz.call270
theorem Um (U:Nat) {g:cC} {b:Int} (k:Value) (r:Int) (h:Ej U g b=some r):
  aY Tryz.prog 270 #[k,vI (b)] [Sl aV k g] (λx:Unit=>vI (r)) (λx l=>l) (λ_ l=>l):=by
 refine aY.of Tryz.func270 Z Tryz.ntmps270 Z λc=>?_;refine aP<|aC Z<|aJ<|aK<|aK<|eJ (λd=>CR U g b d=some r) (λd n=>[(0,k),(1,vI (b)),(14,vB (d))]) (λd n=>[]) ?_ ?_
 ·refine aQ<|aA Z<|cO Z<|aA Z ?_;refine Eb h Z (λ_ h=>?_) λ_ h=>?_
  ·refine aL Z<|aL Z<|aL Z<|aL Z<|eK Z<|aJ ?_;exact iH (true) () h SF Z
  refine eG Z<|eG Z<|aW Z (fF Z (aE.fact 0 Z) Z) Z<|aW Z (Bo Z Z) Z<|fY Z<|aJ ?_;exact iH (decide ((g.length:Int)<=b)) () h SF Z
 intro d n h;refine yW h Z (λ_ h=>?_) λ_ h=>?_
 ·refine aP<|aC Z<|aJ<|aU<|aH ?_;cases h;exact kY Z
 refine cG<|aK<|eJ (λj=>FN  j=some r) (λj o=>[]) (λj o=>[]) ?_ ?_
 ·refine aP<|aC Z<|aJ<|aR<|eO (mT U g) (λa e=>[(0,k),(1,vI (a.1)),(5,vI (a.2))]) (λa e=>[]) (b,(1:Int)) () h SF (a_.refl _) ?_;intro p a e h;refine aK<|aP<|aA Z<|aA Z<|gS (aE.fact 0 Z) Z<|cO Z<|aJ ?_;refine dK h Z (λh=>?_) λh=>?_
  ·refine cG<|aK<|aR<|aP<|aA Z<|aA Z<|dQ h λf h=>aD (aZ Z Z (aE.fact 0 Z) Z Z f) Z<|aD (n_ Z Z Z Z Z) Z<|aD (mA Z (aE.fact 0 Z) Z Z Z sF f) Z<|dV h λi m h=>aG (zBb aci (Qh U  i m) Z .nil) Z λq=>aC Z<|aJ<|aK<|aP<|aA Z<|cO Z<|aJ ?_;refine dK h Z (λh=>?_) λh=>?_
   ·refine aP<|aC Z<|aJ<|aU<|aH<|bN<|aH<|aH<|bN<|aH ?_;cases h;exact kY Z
   refine cG<|aP<|aA Z<|aA Z<|aD (qP Z Z) Z<|cH Z<|aC Z<|aJ<|aP<|aA Z<|bS Z<|aJ ?_;refine dK h Z (λh=>?_) λh=>?_
   ·refine aP<|aA Z<|cH Z<|aC Z<|aJ<|aU<|bN<|aH<|aH<|bN<|aH ?_;cases h;exact kY Z
   refine dD<|lU<|aQ<|aA Z<|cH Z<|aC Z<|aJ ?_;exact AS ((wI .i64 (a.1+(1:Int))),(wI .i64 (a.2+(wI .i64 (i - (1:Int)))))) () h SF Z
  refine fL ?_;exact iH () (()) h SF Z
 intro j o h;unfold FN at h;refine aP<|aC Z<|aJ<|aU ?_;cases h;exact kY Z
def jR (U:Nat) (a:Bool):Option (Int):=
 if a=true then(some (1:Int))else(some (0:Int))
theorem AC:aS Tryz.prog 301:=Tryz.call301
theorem mC (U:Nat) {a:Bool} (r:Int) (h:jR U a=some r):
  aY Tryz.prog 301 #[vB (a)] [] (λx:Unit=>vI (r)) (λx l=>l) (λ_ l=>l):=by
 refine aY.of Tryz.func301 Z Tryz.ntmps301 Z λc=>?_;refine aP<|aC Z<|aJ<|aK<|aP<|aA Z<|aJ ?_;refine yW h Z (λ_ h=>?_) λ_ h=>?_
 ·refine aP<|aC Z<|aJ<|aU<|aH ?_;cases h;exact kY Z
 refine cG<|aP<|aC Z<|aJ<|aU ?_;cases h;exact kY Z
def uI (U:Nat) (a:Xp) (d:Int) (b:Int) (c:Int):Option (Int):=
 if d=(6:Int)then(some (a.2.1.1.length:Int))else(if d=(7:Int)then(some (a.2.2.1))else(if d=(8:Int)then(ck (0<=b∧b<(a.2.1.1.length:Int)) (some (at' a.2.1.1 b)))else(if d=(9:Int)then(ck (0<=b∧b<(a.2.1.2.length:Int)) (some ((at' a.2.1.2 b).length:Int)))else(if d=(10:Int)then(Option.bind (jR U (decide (b=(0:Int)))) λf=>(some (f)))else(if d=(11:Int)then(some (c))else(ck (0<=b∧b<(a.2.1.2.length:Int)) (ck (0<=c∧c<((at' a.2.1.2 b).length:Int)) (if d=(13:Int)then(ck (0<=((at' (at' a.2.1.2 b) c).1)∧((at' (at' a.2.1.2 b) c).1)<(a.2.1.1.length:Int)) (some (at' a.2.1.1 ((at' (at' a.2.1.2 b) c).1))))else(if d=(14:Int)then(ck (0<=((at' (at' a.2.1.2 b) c).1)∧((at' (at' a.2.1.2 b) c).1)<(a.2.1.2.length:Int)) (some ((at' a.2.1.2 ((at' (at' a.2.1.2 b) c).1)).length:Int)))else(if d=(15:Int)then(Option.bind (jR U (decide (((at' (at' a.2.1.2 b) c).1)=(0:Int)))) λe=>(some (e)))else(if d=(16:Int)then(some ((at' (at' a.2.1.2 b) c).2))else(ck (0<=b∧b<(a.2.2.2.length:Int)) (ck (0<=c∧c<((at' a.2.2.2 b).length:Int)) (some (at' (at' a.2.2.2 b) c)))))))))))))))
theorem acm:aS Tryz.prog 300:=Tryz.call300
theorem FC (U:Nat) {d:Xp} {s:Int} {f:Int} {g:Int} (i:Nat)  (t:Value)  (u:Value)  (v:Value)  (w:Value)  (F:jO)  (y:Value)  (G:sY) (r:Int) (h:uI U d s f g=some r):
  aY Tryz.prog 300 #[vP i,vI (s),vI (f),vI (g)] [bM i [vS (d.1.1),t,u,v,w,vI (d.2.2.1),y] 196,Sl aX t d.1.2.1,Sl aM u d.1.2.2,Sl bP v d.2.1.1,S2 aV w F d.2.1.2,S2 bP y G d.2.2.2] (λx:Unit=>vI (r)) (λx l=>l) (λ_ l=>l):=by
 refine aY.of Tryz.func300 Z Tryz.ntmps300 Z λc=>?_;refine aP<|aC Z<|aJ<|aK<|aP<|aA Z<|aJ<|aR<|aP<|bS Z<|aC Z<|aJ ?_;refine dK h Z (λh=>?_) λh=>?_
 ·refine aP<|aA Z<|aD (cF Z) Z<|bY Z<|bY Z<|aD (cY Z (aE.fact 0 Z) Z Z Z) Z<|gS (aE.fact 3 Z) Z<|aC Z<|aJ<|aU<|bN<|aH ?_;cases h;exact kY Z
 refine aP<|bS Z<|aC Z<|aJ ?_;refine dK h Z (λh=>?_) λh=>?_
 ·refine aP<|aA Z<|aD (cF Z) Z<|bY Z<|aD (cY Z (aE.fact 0 Z) Z Z Z) Z<|aC Z<|aJ<|aU<|bN<|aH ?_;cases h;exact kY Z
 refine aP<|bS Z<|aC Z<|aJ ?_;refine dK h Z (λh=>?_) λh=>?_
 ·refine aP<|aA Z<|aD (cF Z) Z<|bY Z<|bY Z<|aD (cY Z (aE.fact 0 Z) Z Z Z) Z<|aA Z<|dQ h λq h=>aD (aZ Z Z (aE.fact 3 Z) Z Z q) Z<|aD (bV Z (aE.fact 3 Z) Z Z Z cT q) Z<|aC Z<|aJ<|aU<|bN<|aH ?_;cases h;exact kY Z
 refine aP<|bS Z<|aC Z<|aJ ?_;refine dK h Z (λh=>?_) λh=>?_
 ·refine aP<|aA Z<|aD (cF Z) Z<|bY Z<|bY Z<|aD (cY Z (aE.fact 0 Z) Z Z Z) Z<|aA Z<|dQ h λn h=>aD (cV Z Z (aE.fact 4 Z) Z Z n) Z<|aD (cP Z (aE.fact 4 Z) Z Z n) Z<|aD (fF Z (zBd (aE.fact 4 Z) n.1 n.2) Z) Z<|aC Z<|aJ<|aU<|bN<|aH ?_;cases h;exact kY Z
 refine aP<|bS Z<|aC Z<|aJ ?_;refine dK h Z (λh=>?_) λh=>?_
 ·refine aP<|aA Z<|bS Z<|dV h λB C h=>aG (zBb AC (mC U  B C) Z .nil) Z λD=>aC Z<|aJ<|aU<|bN<|aH ?_;cases h;exact kY Z
 refine aP<|bS Z<|aC Z<|aJ ?_;refine dK h Z (λh=>?_) λh=>?_
 ·refine aP<|aA Z<|aC Z<|aJ<|aU<|bN<|aH ?_;cases h;exact kY Z
 refine dD<|lU<|aP<|aA Z<|aD (cF Z) Z<|bY Z<|bY Z<|aD (cY Z (aE.fact 0 Z) Z Z Z) Z<|aA Z<|dQ h λa h=>aD (cV Z Z (aE.fact 4 Z) Z Z a) Z<|aD (cP Z (aE.fact 4 Z) Z Z a) Z<|aA Z<|dQ h λj h=>aD (aZ Z Z (zBd (aE.fact 4 Z) a.1 a.2) Z Z j) Z<|aD (eM (cs:=[vI ((at' (at' d.2.1.2 f) g).1),vI ((at' (at' d.2.1.2 f) g).2)]) Z (zBd (aE.fact 4 Z) a.1 a.2) bD Z Z Z Z j) Z<|aG (aI.alloc (cs:=Ni) Z Z) Z λA=>bK 0 (vs:=[vI ((at' (at' d.2.1.2 f) g).1),vI ((at' (at' d.2.1.2 f) g).2)]) Z Z Z Z Z Z<|aJ<|aK<|aP<|aA Z<|aJ<|aR<|aP<|bS Z<|aC Z<|aJ ?_;refine dK h Z (λh=>?_) λh=>?_
 ·refine aK ?_;refine JR.start [0,1,3,7,15,0,32,127,255,511] 7 mixedOrders (by decide +kernel) ?_;refine zBe (by exact rfl) ?_;refine bA Z<|gO Z (cF Z)<|dJ Z<|dJ Z<|bG Z .nil (hZ 0 Z) (cY Z (aE.fact 0 Z) Z Z Z) aN.z<|dJ Z<|fG 0 Z<|bR 7 Z Z<|dQ h λk h=>aD (aZ Z Z (aE.fact 3 Z) Z Z k) Z<|aD (bV Z (aE.fact 3 Z) Z Z Z cT k) Z<|aC Z<|aJ<|aU<|bN<|aH ?_;cases h;exact sB Z
 refine aP<|bS Z<|aC Z<|aJ ?_;refine dK h Z (λh=>?_) λh=>?_
 ·refine aK ?_;refine JR.start [0,1,3,7,15,0,32,127,255,511,1023] 7 mixedOrders (by decide +kernel) ?_;refine zBe (by exact rfl) ?_;refine bA Z<|gO Z (cF Z)<|dJ Z<|dJ Z<|bG Z .nil (hZ 0 Z) (cY Z (aE.fact 0 Z) Z Z Z) aN.z<|dJ Z<|fG 0 Z<|bR 7 Z Z<|dQ h λe h=>aD (cV Z Z (aE.fact 4 Z) Z Z e) Z<|aD (cP Z (aE.fact 4 Z) Z Z e) Z<|aD (fF Z (zBd (aE.fact 4 Z) e.1 e.2) Z) Z<|aC Z<|aJ<|aU<|bN<|aH ?_;cases h;exact sB Z
 refine aP<|bS Z<|aC Z<|aJ ?_;refine dK h Z (λh=>?_) λh=>?_
 ·refine aP<|bY Z<|cR 0 Z<|bS Z<|dV h λo p h=>aG (zBb AC (mC U  o p) Z .nil) Z λE=>aC Z<|aJ<|aU<|bN<|aH ?_;cases h;exact sB Z
 refine aP<|bS Z<|aC Z<|aJ ?_;refine dK h Z (λh=>?_) λh=>?_
 ·refine aP<|bY Z<|cR 0 Z<|aC Z<|aJ<|aU<|bN<|aH ?_;cases h;exact sB Z
 refine dD<|lU<|aP<|aA Z<|aD (cF Z) Z<|bY Z<|aD (cY Z (aE.fact 0 Z) Z Z Z) Z<|aA Z<|dQ h λb h=>aD (cV Z Z (aE.fact 5 Z) Z Z b) Z<|aD (cP Z (aE.fact 5 Z) Z Z b) Z<|aA Z<|dQ h λm h=>aD (aZ Z Z (zBd (aE.fact 5 Z) b.1 b.2) Z Z m) Z<|aD (bV Z (zBd (aE.fact 5 Z) b.1 b.2) Z Z Z cT m) Z<|aC Z<|aJ<|aU ?_;cases h;exact sB Z
def nM (U:Nat) (a:Qj) (b:eC) (c:Int):Option (Int):=
 if b.1=(1:Int)then(some (b.2))else(if b.1=(2:Int)then(some (1:Int))else(if b.1=(3:Int)then(some (0:Int))else(if b.1=(4:Int)then(some (-1:Int))else(if b.1=(5:Int)then(ck (0<=a.2.2.1∧a.2.2.1<(a.2.1.length:Int)) (ck (0<=b.2∧b.2<((at' a.2.1 a.2.2.1).length:Int)) (some (at' (at' a.2.1 a.2.2.1) b.2))))else(if b.1=(12:Int)then(ck (0<=a.2.2.1∧a.2.2.1<(a.1.2.1.2.length:Int)) (ck (0<=c∧c<((at' a.1.2.1.2 a.2.2.1).length:Int)) (ck (0<=((at' (at' a.1.2.1.2 a.2.2.1) c).1)∧((at' (at' a.1.2.1.2 a.2.2.1) c).1)<(a.2.1.length:Int)) (ck (0<=b.2∧b.2<((at' a.2.1 ((at' (at' a.1.2.1.2 a.2.2.1) c).1)).length:Int)) (some (at' (at' a.2.1 ((at' (at' a.1.2.1.2 a.2.2.1) c).1)) b.2))))))else(Option.bind (uI U ((((a.1.1.1,a.1.1.2.1,a.1.1.2.2)),((a.1.2.1.1,a.1.2.1.2)),a.1.2.2.1,a.1.2.2.2)) b.1 a.2.2.1 c) λd=>(some (d))))))))
theorem acj:aS Tryz.prog 291:=Tryz.call291
theorem GC (U:Nat) {d:Qj} {k:eC} {y:Int} (g:Nat)  (e:Nat)  (o:Value)  (p:Value)  (q:Value)  (s:Value)  (B:jO)  (t:Value)  (C:sY)  (A:Value)  (v:sY)  (m:Value) (r:Int) (h:nM U d k y=some r):
  aY Tryz.prog 291 #[vP g,Value.agg #[vI (k.1),vI (k.2)],vI (y)] [bM g [vP e,A,vI (d.2.2.1),m] 242,bM e [vS (d.1.1.1),o,p,q,s,vI (d.1.2.2.1),t] 196,Sl aX o d.1.1.2.1,Sl aM p d.1.1.2.2,Sl bP q d.1.2.1.1,S2 aV s B d.1.2.1.2,S2 bP t C d.1.2.2.2,S2 bP A v d.2.1,Sl aV m d.2.2.2] (λx:Unit=>vI (r)) (λx l=>l) (λ_ l=>l):=by
 refine aY.of Tryz.func291 Z Tryz.ntmps291 Z λc=>?_;refine aP<|aG (aI.box (cs:=[vI (k.1),vI (k.2)]) Z Z) Z λE=>aC Z<|aJ<|aK<|aP<|bY Z<|cR 0 Z<|aJ<|aR<|aP<|bS Z<|aC Z<|aJ ?_;refine dK h Z (λh=>?_) λh=>?_
 ·refine aP<|bY Z<|cR 0 Z<|aC Z<|aJ<|aU<|bN<|aH ?_;cases h;exact sB Z
 refine aP<|bS Z<|aC Z<|aJ ?_;refine dK h Z (λh=>?_) λh=>?_
 ·refine aP<|aC Z<|aJ<|aU<|bN<|aH ?_;cases h;exact sB Z
 refine aP<|bS Z<|aC Z<|aJ ?_;refine dK h Z (λh=>?_) λh=>?_
 ·refine aP<|aC Z<|aJ<|aU<|bN<|aH ?_;cases h;exact sB Z
 refine aP<|bS Z<|aC Z<|aJ ?_;refine dK h Z (λh=>?_) λh=>?_
 ·refine aP<|aC Z<|aJ<|aU<|bN<|aH ?_;cases h;exact sB Z
 refine aP<|bS Z<|aC Z<|aJ ?_;refine dK h Z (λh=>?_) λh=>?_
 ·refine aK ?_;refine JR.start [0,1,3,7,0,16,48,112,255,511,0,1024,4095,8191,16383] 12 mixedOrders (by decide +kernel) ?_;refine zBe (by exact rfl) ?_;refine bA Z<|gO Z (cF Z)<|dJ Z<|bG Z .nil (hZ 0 Z) (cY Z (aE.fact 0 Z) Z Z Z) aN.z<|bA Z<|gO Z (cF Z)<|dJ Z<|bG Z .nil (hZ 0 Z) (cY Z (aE.fact 0 Z) Z Z Z) aN.z<|dQ h λf h=>bG Z .nil (hZ 7 Z) (cV Z Z (aE.fact 0 Z) Z Z f) aN.z<|bG Z .nil (hZ 7 Z) (cP Z (aE.fact 0 Z) Z Z f) aN.z<|dJ Z<|fG 0 Z<|bR 12 Z Z<|dQ h λw h=>aD (aZ Z Z (zBd (aE.fact 7 Z) f.1 f.2) Z Z w) Z<|aD (bV Z (zBd (aE.fact 7 Z) f.1 f.2) Z Z Z cT w) Z<|aC Z<|aJ<|aU<|bN<|aH ?_;cases h;exact sB Z
 refine aP<|bS Z<|aC Z<|aJ ?_;refine dK h Z (λh=>?_) λh=>?_
 ·refine aK ?_;refine JR.start [0,1,3,7,0,16,48,112,240,496,1008,2032,0,4096,12288,28672,65520,131056,0,524272,1048560,2097136,4194303,8388607,0,16777216,67108863,134217727,268435455] 26 mixedOrders (by decide +kernel) ?_;refine zBe (by exact rfl) ?_;refine bA Z<|gO Z (cF Z)<|dJ Z<|bG Z .nil (hZ 0 Z) (cY Z (aE.fact 0 Z) Z Z Z) aN.z<|bA Z<|gO Z (cF Z)<|dJ Z<|bG Z .nil (hZ 0 Z) (cY Z (aE.fact 0 Z) Z Z Z) aN.z<|gO Z (cF Z)<|dJ Z<|dJ Z<|bG Z .nil (hZ 1 Z) (cY Z (aE.fact 0 Z) Z Z Z) aN.z<|bA Z<|gO Z (cF Z)<|dJ Z<|bG Z .nil (hZ 0 Z) (cY Z (aE.fact 0 Z) Z Z Z) aN.z<|dQ h λa h=>bG Z .nil (hZ 5 Z) (cV Z Z (aE.fact 0 Z) Z Z a) aN.z<|bG Z .nil (hZ 5 Z) (cP Z (aE.fact 0 Z) Z Z a) aN.z<|bA Z<|dQ h λi h=>bG Z .nil (hZ 5 Z) (aZ Z Z (zBd (aE.fact 0 Z) a.1 a.2) Z Z i) aN.z<|gO Z (n_ Z Z Z Z Z)<|bG Z .nil (hZ 5 Z) (mA Z (zBd (aE.fact 0 Z) a.1 a.2) Z Z Z sF i) aN.z<|dQ h λb h=>bG Z .nil (hZ 7 Z) (cV Z Z (aE.fact 0 Z) Z Z b) aN.z<|bG Z .nil (hZ 7 Z) (cP Z (aE.fact 0 Z) Z Z b) aN.z<|dJ Z<|fG 0 Z<|bR 26 Z Z<|dQ h λj h=>aD (aZ Z Z (zBd (aE.fact 7 Z) b.1 b.2) Z Z j) Z<|aD (bV Z (zBd (aE.fact 7 Z) b.1 b.2) Z Z Z cT j) Z<|aC Z<|aJ<|aU<|bN<|aH ?_;cases h;exact sB Z
 refine dD<|lU<|aK ?_;refine JR.start [0,1,3,7,0,16,0,64,192,448,0,2047,4095] 11 mixedOrders (by decide +kernel) ?_;refine zBe (by exact rfl) ?_;refine bA Z<|gO Z (cF Z)<|dJ Z<|bG Z .nil (hZ 0 Z) (cY Z (aE.fact 0 Z) Z Z Z) aN.z<|dJ Z<|fG 0 Z<|bA Z<|gO Z (cF Z)<|dJ Z<|bG Z .nil (hZ 0 Z) (cY Z (aE.fact 0 Z) Z Z Z) aN.z<|bA Z<|bR 11 Z Z<|dV h λn u h=>aG (zBb acm (FC U e o p q s B t C n u) Z (kA [1,2,3,4,5,6] Z)) Z λD=>aC Z<|aJ<|aU ?_;cases h;exact sB Z
def BC (U:Nat) (b:Int) (a:Int):Option (Int):=
 if b=(18:Int)then(some (wI .i64 (0 - a)))else(Option.bind (jR U (decide (a=(0:Int)))) λc=>(some (c)))
theorem ack:aS Tryz.prog 292:=Tryz.call292
theorem Qb (U:Nat) {a:Int} {b:Int} (r:Int) (h:BC U a b=some r):
  aY Tryz.prog 292 #[vI (a),vI (b)] [] (λx:Unit=>vI (r)) (λx l=>l) (λ_ l=>l):=by
 refine aY.of Tryz.func292 Z Tryz.ntmps292 Z λc=>?_;refine aP<|aC Z<|aJ<|aK<|aP<|aA Z<|bS Z<|aJ ?_;refine dK h Z (λh=>?_) λh=>?_
 ·refine aP<|aA Z<|aD (UC Z) Z<|aC Z<|aJ<|aU<|aH ?_;cases h;exact kY Z
 refine cG<|aP<|aA Z<|bS Z<|dV h λd e h=>aG (zBb AC (mC U  d e) Z .nil) Z λf=>aC Z<|aJ<|aU ?_;cases h;exact kY Z
def kH (U:Nat) (a:Int):Option (Int):=
 some (max (-1073741824:Int) (min a (1073741824:Int)))
theorem FZ:aS Tryz.prog 303:=Tryz.call303
theorem oE (U:Nat) {a:Int} (r:Int) (h:kH U a=some r):
  aY Tryz.prog 303 #[vI (a)] [] (λx:Unit=>vI (r)) (λx l=>l) (λ_ l=>l):=by
 refine aY.of Tryz.func303 Z Tryz.ntmps303 Z λc=>?_;unfold kH at h;refine aP<|aC Z<|aJ<|aP<|aA Z<|aD (UB Z Z) Z<|aD (Ka Z Z) Z<|aC Z<|aJ<|aU ?_;cases h;exact kY Z
def rJ  (a:Int):Option (Int):=
 some (a)
def vH (a:Int) (b:Int) (c:Bool):Option (Int):=
 if c=true then(rJ  (wI .i64 ((wI .i64 (Int.tdiv a b)) - (1:Int))))else(rJ  (wI .i64 (Int.tdiv a b)))
def sU (U:Nat) (b:Int) (a:Int):Option (Int):=
 if a=(0:Int)then(some (0:Int))else(ck (a≠0) (ck (a≠0) (if(Int.tmod b a)≠(0:Int)then(vH b a (((decide (b<(0:Int))) != (decide (a<(0:Int))))))else(vH b a (false)))))
theorem UZ:aS Tryz.prog 304:=Tryz.call304
theorem EG (U:Nat) {a:Int} {b:Int} (r:Int) (h:sU U a b=some r):
  aY Tryz.prog 304 #[vI (a),vI (b)] [] (λx:Unit=>vI (r)) (λx l=>l) (λ_ l=>l):=by
 refine aY.of Tryz.func304 Z Tryz.ntmps304 Z λc=>?_;refine aP<|aC Z<|aJ<|aK<|aP<|aA Z<|bS Z<|aJ ?_;refine dK h Z (λh=>?_) λh=>?_
 ·refine aP<|aC Z<|aJ<|aU<|aH ?_;cases h;exact kY Z
 refine cG<|aP<|aA Z<|aA Z<|dQ h λj h=>aD (Tp Z Z j) Z<|aC Z<|aJ<|aK<|eJ (λd=>rJ  d=some r) (λd g=>[(5,vI (d))]) (λd g=>[]) ?_ ?_
 ·refine aK<|eJ (λe=>vH a b e=some r) (λe i=>[(5,vI (wI .i64 (Int.tdiv a b))),(21,vB (e))]) (λe i=>[]) ?_ ?_
  ·refine aQ<|aA Z<|aA Z<|dQ h λf h=>aD (QQ Z Z f) Z<|pC Z<|aA Z ?_;refine Eb h Z (λ_ h=>?_) λ_ h=>?_
   ·refine eG Z<|aW Z (GN Z Z) Z<|eG Z<|aW Z (GN Z Z) Z<|aW Z (aez Z Z Z) Z<|eK Z<|aJ ?_;exact iH (((decide (a<(0:Int))) != (decide (b<(0:Int))))) () h SF Z
   refine aL Z<|aL Z<|aL Z<|aL Z<|aL Z<|fY Z<|aJ ?_;exact iH (false) () h SF Z
  intro e i h;refine yW h Z (λ_ h=>?_) λ_ h=>?_
  ·refine aQ<|aA Z<|aD (qP Z Z) Z<|aC Z<|aJ ?_;exact iH (wI .i64 ((wI .i64 (Int.tdiv a b)) - (1:Int))) () h SF Z
  refine cG ?_;exact iH (wI .i64 (Int.tdiv a b)) () h SF Z
 intro d g h;unfold rJ at h;refine aP<|aA Z<|aC Z<|aJ<|aU ?_;cases h;exact kY Z
def xP (U:Nat) (c:Int) (a:Int) (b:Int):Option Bool:=
 if c=(35:Int)then(some (decide (a=b)))else(if c=(36:Int)then(some (decide (a≠b)))else(if c=(37:Int)then(some (decide (a<b)))else(if c=(38:Int)then(some (decide (a<=b)))else(if c=(39:Int)then(some (decide (b<a)))else(some (decide (b<=a)))))))
theorem aco:aS Tryz.prog 305:=Tryz.call305
theorem KC (U:Nat) {a:Int} {b:Int} {d:Int} (r:Bool) (h:xP U a b d=some r):
  aY Tryz.prog 305 #[vI (a),vI (b),vI (d)] [] (λx:Unit=>vB (r)) (λx l=>l) (λ_ l=>l):=by
 refine aY.of Tryz.func305 Z Tryz.ntmps305 Z λc=>?_;refine aP<|aC Z<|aJ<|aK<|aP<|aA Z<|aJ<|aR<|aP<|bS Z<|aC Z<|aJ ?_;refine dK h Z (λh=>?_) λh=>?_
 ·refine aP<|aA Z<|aA Z<|bS Z<|aC Z<|aJ<|aU<|bN<|aH ?_;cases h;exact kY Z
 refine aP<|bS Z<|aC Z<|aJ ?_;refine dK h Z (λh=>?_) λh=>?_
 ·refine aP<|aA Z<|aA Z<|pC Z<|aC Z<|aJ<|aU<|bN<|aH ?_;cases h;exact kY Z
 refine aP<|bS Z<|aC Z<|aJ ?_;refine dK h Z (λh=>?_) λh=>?_
 ·refine aP<|aA Z<|aA Z<|cO Z<|aC Z<|aJ<|aU<|bN<|aH ?_;cases h;exact kY Z
 refine aP<|bS Z<|aC Z<|aJ ?_;refine dK h Z (λh=>?_) λh=>?_
 ·refine aP<|aA Z<|aA Z<|aD (Dn Z Z) Z<|aC Z<|aJ<|aU<|bN<|aH ?_;cases h;exact kY Z
 refine aP<|bS Z<|aC Z<|aJ ?_;refine dK h Z (λh=>?_) λh=>?_
 ·refine aP<|aA Z<|aA Z<|aD (Bp Z Z) Z<|aC Z<|aJ<|aU<|bN<|aH ?_;cases h;exact kY Z
 refine dD<|lU<|aP<|aA Z<|aA Z<|aD (Bo Z Z) Z<|aC Z<|aJ<|aU ?_;cases h;exact kY Z
def rH  (a:Int):Option (Int):=
 some (a)
def rI  (a:Int):Option (Int):=
 some (a)
def AH (U:Nat) (c:Int) (b:Int) (a:Int):Option (Int):=
 if c=(30:Int)then(Option.bind (kH U (wI .i64 (b*a))) λn=>(some (n)))else(if c=(31:Int)then(Option.bind (sU U b a) λo=>(Option.bind (kH U o) λp=>(some (p))))else(if c=(32:Int)then(if a=(0:Int)then(some (0:Int))else(Option.bind (sU U b a) λd=>(Option.bind (kH U (wI .i64 (b - (wI .i64 (a*d))))) λe=>(some (e)))))else(if c=(33:Int)then(Option.bind (kH U (wI .i64 (b+a))) λf=>(some (f)))else(if c=(34:Int)then(Option.bind (kH U (wI .i64 (b - a))) λg=>(some (g)))else(if c=(41:Int)then(if b≠(0:Int)then(Option.bind (jR U (decide (a≠(0:Int)))) λh=>(rH  (h)))else(Option.bind (jR U false) λi=>(rH  (i))))else(if c=(42:Int)then(if b≠(0:Int)then(Option.bind (jR U true) λj=>(rI  (j)))else(Option.bind (jR U (decide (a≠(0:Int)))) λk=>(rI  (k))))else(Option.bind (xP U c b a) λl=>(Option.bind (jR U l) λm=>(some (m))))))))))
theorem acl:aS Tryz.prog 294:=Tryz.call294
theorem Ns (U:Nat) {E:Int} {F:Int} {G:Int} (r:Int) (h:AH U E F G=some r):
  aY Tryz.prog 294 #[vI (E),vI (F),vI (G)] [] (λx:Unit=>vI (r)) (λx l=>l) (λ_ l=>l):=by
 refine aY.of Tryz.func294 Z Tryz.ntmps294 Z λc=>?_;refine aP<|aC Z<|aJ<|aK<|aP<|aA Z<|aJ<|aR<|aP<|bS Z<|aC Z<|aJ ?_;refine dK h Z (λh=>?_) λh=>?_
 ·refine aP<|aA Z<|aA Z<|aD (zA Z Z) Z<|dV h λH K h=>aG (zBb FZ (oE U  H K) Z .nil) Z λY=>aC Z<|aJ<|aU<|bN<|aH ?_;cases h;exact kY Z
 refine aP<|bS Z<|aC Z<|aJ ?_;refine dK h Z (λh=>?_) λh=>?_
 ·refine aP<|aA Z<|aA Z<|dV h λI L h=>aG (zBb UZ (EG U  I L) Z .nil) Z λx8=>dV h λJ s h=>aG (zBb FZ (oE U  J s) Z .nil) Z λM=>aC Z<|aJ<|aU<|bN<|aH ?_;cases h;exact kY Z
 refine aP<|bS Z<|aC Z<|aJ ?_;refine dK h Z (λh=>?_) λh=>?_
 ·refine aK<|aP<|aA Z<|bS Z<|aJ ?_;refine dK h Z (λh=>?_) λh=>?_
  ·refine aP<|aC Z<|aJ<|aU<|aH<|bN<|aH ?_;cases h;exact kY Z
  refine cG<|aP<|aA Z<|aA Z<|aA Z<|aA Z<|dV h λk t h=>aG (zBb UZ (EG U  k t) Z .nil) Z λN=>aD (zA Z Z) Z<|aD (qP Z Z) Z<|dV h λm u h=>aG (zBb FZ (oE U  m u) Z .nil) Z λO=>aC Z<|aJ<|aU<|bN<|aH ?_;cases h;exact kY Z
 refine aP<|bS Z<|aC Z<|aJ ?_;refine dK h Z (λh=>?_) λh=>?_
 ·refine aP<|aA Z<|aA Z<|cH Z<|dV h λn v h=>aG (zBb FZ (oE U  n v) Z .nil) Z λP=>aC Z<|aJ<|aU<|bN<|aH ?_;cases h;exact kY Z
 refine aP<|bS Z<|aC Z<|aJ ?_;refine dK h Z (λh=>?_) λh=>?_
 ·refine aP<|aA Z<|aA Z<|aD (qP Z Z) Z<|dV h λo w h=>aG (zBb FZ (oE U  o w) Z .nil) Z λQ=>aC Z<|aJ<|aU<|bN<|aH ?_;cases h;exact kY Z
 refine aP<|bS Z<|aC Z<|aJ ?_;refine dK h Z (λh=>?_) λh=>?_
 ·refine aK<|eJ (λa=>rH  a=some r) (λa d=>[(6,vI (a))]) (λa d=>[]) ?_ ?_
  ·refine aQ<|aA Z<|pC Z<|aA Z ?_;refine Eb h Z (λ_ h=>?_) λ_ h=>?_
   ·refine eG Z<|aW Z (Bq Z Z) Z<|eK Z<|dV h λf y h=>aG (zBb AC (mC U  f y) Z .nil) Z λR=>aC Z<|aJ ?_;exact iH (f) () h SF Z
   refine aL Z<|aL Z<|fY Z<|dV h λg z h=>aG (zBb AC (mC U  g z) Z .nil) Z λS=>aC Z<|aJ ?_;exact iH (g) () h SF Z
  intro a d h;unfold rH at h;refine aU<|bN<|aH ?_;cases h;exact kY Z
 refine aP<|bS Z<|aC Z<|aJ ?_;refine dK h Z (λh=>?_) λh=>?_
 ·refine aK<|eJ (λb=>rI  b=some r) (λb e=>[(6,vI (b))]) (λb e=>[]) ?_ ?_
  ·refine aQ<|aA Z<|pC Z<|aA Z ?_;refine Eb h Z (λ_ h=>?_) λ_ h=>?_
   ·refine aL Z<|aL Z<|eK Z<|dV h λi A h=>aG (zBb AC (mC U  i A) Z .nil) Z λT=>aC Z<|aJ ?_;exact iH (i) () h SF Z
   refine eG Z<|aW Z (Bq Z Z) Z<|fY Z<|dV h λj B h=>aG (zBb AC (mC U  j B) Z .nil) Z λV=>aC Z<|aJ ?_;exact iH (j) () h SF Z
  intro b e h;unfold rI at h;refine aU<|bN<|aH ?_;cases h;exact kY Z
 refine dD<|lU<|aP<|aA Z<|aA Z<|aA Z<|dV h λp C h=>aG (zBb aco (KC U  p C) Z .nil) Z λW=>dV h λq D h=>aG (zBb AC (mC U  q D) Z .nil) Z λX=>aC Z<|aJ<|aU ?_;cases h;exact kY Z
def AE  (a:Int):Option (Int):=
 some (a)
def wP (c:eC) (b:gW->Option (Int)) (a:Int):Option (Int):=
 b (a,(wI .i64 (c.2+(1:Int))))
def tD (c:aO) (a:eC) (b:gW->Option (Int)):Option (Int):=
 if a.2<(c.length:Int)then(ck (0<=a.2∧a.2<(c.length:Int)) (if(at' c a.2)≠(0:Int)then(wP a b (wI .i64 (a.1+(1:Int))))else(wP a b (a.1))))else(AE  (a.1))
def sJ (U:Nat) (a:aO):Option (Int):=
 bH (tD a) U ((0:Int),(0:Int))
theorem OZ:aS Tryz.prog 309:=Tryz.call309
theorem Eu (U:Nat) {d:aO} (i:Value) (r:Int) (h:sJ U d=some r):
  aY Tryz.prog 309 #[i] [Sl bP i d] (λx:Unit=>vI (r)) (λx l=>l) (λ_ l=>l):=by
 refine aY.of Tryz.func309 Z Tryz.ntmps309 Z λc=>?_;unfold sJ at h;refine aP<|aC Z<|aJ<|aP<|aC Z<|aJ<|aK<|eJ (λe=>AE  e=some r) (λe j=>[(3,vI (e))]) (λe j=>[]) ?_ ?_
 ·refine aP<|aA Z<|gS (aE.fact 0 Z) Z<|aA Z<|aJ<|aR<|eO (tD d) (λb k=>[(3,vI (b.1)),(6,i),(7,vI (d.length:Int)),(8,vI (b.2))]) (λb k=>[]) ((0:Int),(0:Int)) () h SF (a_.refl _) ?_;intro m b k h;refine aP<|cO Z<|aJ<|aK ?_;refine dK h Z (λh=>?_) λh=>?_
  ·refine cG<|aK<|eJ (λa=>wP b (bH (tD d) m) a=some r) (λa f=>[(3,vI (a)),(6,i),(7,vI (d.length:Int)),(8,vI (b.2))]) (λa f=>[]) ?_ ?_
   ·refine aR<|aP<|dQ h λg h=>aD (aZ Z Z (aE.fact 0 Z) Z Z g) Z<|aD (bV Z (aE.fact 0 Z) Z Z Z cT g) Z<|aC Z<|aJ<|aP<|aA Z<|pC Z<|aJ ?_;refine dK h Z (λh=>?_) λh=>?_
    ·refine aQ<|aA Z<|cH Z<|aC Z<|eV<|lU ?_;exact iH (wI .i64 (b.1+(1:Int))) () h SF Z
    refine dD<|lU ?_;exact iH (b.1) () h SF Z
   intro a f h;unfold wP at h;refine aQ<|cH Z<|aA Z<|aJ ?_;exact AS (a,(wI .i64 (b.2+(1:Int)))) () h SF Z
  refine fL ?_;exact iH (b.1) () h SF Z
 intro e j h;unfold AE at h;refine aP<|aA Z<|aC Z<|aJ<|aU ?_;cases h;exact kY Z
def rA  (a:Unit):Option (Int):=
 some (-1:Int)
def gV (c:aO) (e:Int->Option Bool) (a:Int) (b:(Int)->Option (Int)):Option (Int):=
 if a<(c.length:Int)then(ck (0<=a∧a<(c.length:Int)) (Option.bind (e (at' c a)) λd=>(if d=true then(some (a))else(b (wI .i64 (a+(1:Int)))))))else(rA  (()))
def o_ (U:Nat) (b:aO) (a:Int->Option Bool):Option (Int):=
 bH (gV b a) U (0:Int)
theorem acp:aS Tryz.prog 310:=Tryz.call310
theorem HG (U:Nat) {b:aO} {o:Int->Option Bool} (k:FuncId) (a:jB) (j:List bF) (e:aS Tryz.prog k) (f:∀(t:Int) (r:Bool),o t=some r->aY Tryz.prog k ([vI (t)]++a).toArray j (λ_:Unit=>vB (r)) (λ_ l=>l) (λ_ l=>l)) (i:Value) (r:Int) (h:o_ U b o=some r):
  aY Tryz.prog 310 #[i,Value.func (.func k) #[] (a).toArray] ([Sl bP i b]++j) (λx:Unit=>vI (r)) (λx l=>l) (λ_ l=>l):=by
 refine aY.of Tryz.func310 Z Tryz.ntmps310 Z λc=>?_;unfold o_ at h;refine aP<|aC Z<|aJ<|aK<|Hh (B:=Unit) (λg=>rA  g=some r) (λg m=>[]) (λg m=>[]) (λg m=>([Sl bP i b]++j)) ?_ ?_
 ·refine aP<|aA Z<|gS (aE.fact 0 Z) Z<|aA Z<|aJ<|aR<|KL (B:=Unit) (gV b o) (λd n=>[(0,i),(1,Value.func (.func k) #[] (a).toArray),(7,vI (b.length:Int)),(8,vI (d))]) (λd n=>[]) (λd n=>([Sl bP i b]++j)) (0:Int) () h SF (a_.refl _) (aB.refl _ _) ?_;intro v d n h;refine aP<|cO Z<|aJ<|aK ?_;refine dK h Z (λh=>?_) λh=>?_
  ·refine cG<|aK<|aR<|aP<|aA Z<|aC Z<|aJ<|aP<|aA Z<|aA Z<|aA Z<|dQ h λs h=>aD (aZ Z Z (aE.fact 0 Z) Z Z s) Z<|aD (bV Z (aE.fact 0 Z) Z Z Z cT s) Z<|dV h λp q h=>aG (i_ (vs:=[vI (at' b d)]) (cs:=a) e Z (f (at' b d) p q) Z (aB.tail _) (λ_ _=>rfl)) Z λu=>aJ ?_;refine yW h Z (λ_ h=>?_) λ_ h=>?_
   ·refine aP<|aA Z<|aC Z<|aJ<|aU<|bN<|aH<|aH<|bN<|aH ?_;cases h;exact kY Z
   refine dD<|lU<|aQ<|cH Z<|aA Z<|aJ ?_;exact AS (wI .i64 (d+(1:Int))) () h SF Z
  refine fL ?_;exact iH () (()) h SF Z
 intro g m h;unfold rA at h;refine aP<|aC Z<|aJ<|aU ?_;cases h;exact kY Z
def qR (U:Nat) (a:Int):Option Bool:=
 some (decide (a≠(0:Int)))
theorem acq:aS Tryz.prog 311:=Tryz.call311
theorem Nt (U:Nat) {a:Int} (r:Bool) (h:qR U a=some r):
  aY Tryz.prog 311 #[vI (a)] [] (λx:Unit=>vB (r)) (λx l=>l) (λ_ l=>l):=by
 refine aY.of Tryz.func311 Z Tryz.ntmps311 Z λc=>?_;unfold qR at h;refine aP<|aC Z<|aJ<|aP<|aA Z<|pC Z<|aC Z<|aJ<|aU ?_;cases h;exact kY Z
def wF  (a:eC):Option gW:=
 some (a.1,a.2)
def qX (c:Int×Int×Int) (b:(Int×Int×Int)->Option gW) (a:eC):Option gW:=
 b (a.1,a.2,(wI .i64 (c.2.2+(1:Int))))
def wG (c:aO) (a:Int×Int×Int) (b:(Int×Int×Int)->Option gW):Option gW:=
 if a.2.2<(c.length:Int)then(ck (0<=a.2.2∧a.2.2<(c.length:Int)) (if a.1<(at' c a.2.2)then(qX a b ((at' c a.2.2),a.1))else(qX a b (a.1,(max a.2.1 (at' c a.2.2))))))else(wF  (a.1,a.2.1))
def sK (U:Nat) (a:aO):Option gW:=
 bH (wG a) U ((-1073741824:Int),(-1073741824:Int),(0:Int))
theorem U_:aS Tryz.prog 312:=Tryz.call312
theorem Ck (U:Nat) {d:aO} (j:Value) (r:eC) (h:sK U d=some r):
  aY Tryz.prog 312 #[j] [Sl bP j d] (λx:Unit=>Value.tuple #[vI (r.1),vI (r.2)]) (λx l=>l) (λ_ l=>l):=by
 refine aY.of Tryz.func312 Z Tryz.ntmps312 Z λc=>?_;unfold sK at h;refine aP<|aC Z<|aC Z<|aJ<|aP<|aC Z<|aC Z<|aJ<|aK<|eJ (λe=>wF  e=some r) (λe m=>[(2,vI (e.1)),(3,vI (e.2))]) (λe m=>[]) ?_ ?_
 ·refine aP<|aA Z<|gS (aE.fact 0 Z) Z<|aA Z<|aJ<|aR<|eO (wG d) (λb f=>[(2,vI (b.1)),(3,vI (b.2.1)),(6,j),(7,vI (d.length:Int)),(8,vI (b.2.2))]) (λb f=>[]) ((-1073741824:Int),(-1073741824:Int),(0:Int)) () h SF (a_.refl _) ?_;intro k b f h;refine aP<|cO Z<|aJ<|aK ?_;refine dK h Z (λh=>?_) λh=>?_
  ·refine cG<|aK<|eJ (λa=>qX b (bH (wG d) k) a=some r) (λa g=>[(2,vI (a.1)),(3,vI (a.2)),(6,j),(7,vI (d.length:Int)),(8,vI (b.2.2))]) (λa g=>[]) ?_ ?_
   ·refine aR<|aP<|dQ h λi h=>aD (aZ Z Z (aE.fact 0 Z) Z Z i) Z<|aD (bV Z (aE.fact 0 Z) Z Z Z cT i) Z<|aC Z<|aJ<|aP<|aA Z<|aA Z<|aD (Bp Z Z) Z<|aJ ?_;refine dK h Z (λh=>?_) λh=>?_
    ·refine aQ<|aA Z<|aA Z<|aC Z<|aC Z<|eV<|lU ?_;exact iH ((at' d b.2.2),b.1) () h SF Z
    refine aQ<|aA Z<|aA Z<|aD (Ka Z Z) Z<|aC Z<|eV<|lU ?_;exact iH (b.1,(max b.2.1 (at' d b.2.2))) () h SF Z
   intro a g h;unfold qX at h;refine aQ<|cH Z<|aA Z<|aJ ?_;exact AS (a.1,a.2,(wI .i64 (b.2.2+(1:Int)))) () h SF Z
  refine fL ?_;exact iH (b.1,b.2.1) () h SF Z
 intro e m h;unfold wF at h;refine aP<|aA Z<|aA Z<|aC Z<|aC Z<|aJ<|aU ?_;cases h;exact iG () Z Z (RV.tmp Z) (RV.tmp Z) (a_.refl _) aB.nil
def xV  (a:Unit):Option (Int):=
 some (-1:Int)
def lA (c:aO) (d:Int) (a:Int) (b:(Int)->Option (Int)):Option (Int):=
 if a<(c.length:Int)then(ck (0<=a∧a<(c.length:Int)) (if d=(at' c a)then(some (a))else(b (wI .i64 (a+(1:Int))))))else(xV  (()))
def rT (U:Nat) (a:aO) (b:Int):Option (Int):=
 bH (lA a b) U (0:Int)
theorem abS:aS Tryz.prog 209:=Tryz.call209
theorem MV (U:Nat) {d:aO} {e:Int} (f:Value) (r:Int) (h:rT U d e=some r):
  aY Tryz.prog 209 #[f,vI (e)] [Sl bP f d] (λx:Unit=>vI (r)) (λx l=>l) (λ_ l=>l):=by
 refine aY.of Tryz.func209 Z Tryz.ntmps209 Z λc=>?_;unfold rT at h;refine aP<|aC Z<|aJ<|aK<|eJ (λa=>xV  a=some r) (λa g=>[]) (λa g=>[]) ?_ ?_
 ·refine aP<|aA Z<|gS (aE.fact 0 Z) Z<|aA Z<|aJ<|aR<|eO (lA d e) (λb i=>[(0,f),(1,vI (e)),(7,vI (d.length:Int)),(8,vI (b))]) (λb i=>[]) (0:Int) () h SF (a_.refl _) ?_;intro k b i h;refine aP<|cO Z<|aJ<|aK ?_;refine dK h Z (λh=>?_) λh=>?_
  ·refine cG<|aK<|aR<|aP<|aA Z<|aC Z<|aJ<|aP<|aA Z<|aA Z<|aA Z<|dQ h λj h=>aD (aZ Z Z (aE.fact 0 Z) Z Z j) Z<|aD (bV Z (aE.fact 0 Z) Z Z Z cT j) Z<|bS Z<|aJ ?_;refine dK h Z (λh=>?_) λh=>?_
   ·refine aP<|aA Z<|aC Z<|aJ<|aU<|bN<|aH<|aH<|bN<|aH ?_;cases h;exact kY Z
   refine dD<|lU<|aQ<|cH Z<|aA Z<|aJ ?_;exact AS (wI .i64 (b+(1:Int))) () h SF Z
  refine fL ?_;exact iH () (()) h SF Z
 intro a g h;unfold xV at h;refine aP<|aC Z<|aJ<|aU ?_;cases h;exact kY Z
def tV (U:Nat) (a:aO) (b:Int):Option Bool:=
 Option.bind (rT U a b) λc=>(some (decide ((0:Int)<=c)))
theorem acs:aS Tryz.prog 317:=Tryz.call317
theorem IQ (U:Nat) {b:aO} {d:Int} (a:Value) (r:Bool) (h:tV U b d=some r):
  aY Tryz.prog 317 #[a,vI (d)] [Sl bP a b] (λx:Unit=>vB (r)) (λx l=>l) (λ_ l=>l):=by
 refine aY.of Tryz.func317 Z Tryz.ntmps317 Z λc=>?_;refine aP<|aC Z<|aJ<|aP<|aA Z<|aA Z<|dV h λe f h=>aG (zBb abS (MV U a e f) Z (kA [0] Z)) Z λg=>aD (Bo Z Z) Z<|aC Z<|aJ<|aU ?_;cases h;exact kY Z
def CL  (a:Int):Option (Int):=
 some (a)
def AT (U:Nat) (c:aO) (a:Int) (b:(Int)->Option (Int)):Option (Int):=
 Option.bind (tV U c a) λd=>(if d=true then(b (wI .i64 (a+(1:Int))))else(CL  (a)))
def Cc (U:Nat) (a:aO):Option (Int):=
 bH (AT U a) U (0:Int)
theorem acr:aS Tryz.prog 313:=Tryz.call313
theorem Ul (U:Nat) {e:aO} (d:Value) (r:Int) (h:Cc U e=some r):
  aY Tryz.prog 313 #[d] [Sl bP d e] (λx:Unit=>vI (r)) (λx l=>l) (λ_ l=>l):=by
 refine aY.of Tryz.func313 Z Tryz.ntmps313 Z λc=>?_;unfold Cc at h;refine aP<|aC Z<|aJ<|aP<|aC Z<|aJ<|aK<|eJ (λa=>CL  a=some r) (λa g=>[(3,vI (a))]) (λa g=>[]) ?_ ?_
 ·refine aR<|eO (AT U e) (λb i=>[(0,d),(3,vI (b))]) (λb i=>[]) (0:Int) () h SF (a_.refl _) ?_;intro m b i h;refine aK<|aP<|aA Z<|aA Z<|dV h λj f h=>aG (zBb acs (IQ U d j f) Z (kA [0] Z)) Z λk=>aJ ?_;refine yW h Z (λ_ h=>?_) λ_ h=>?_
  ·refine cG<|aR<|aQ<|aA Z<|cH Z<|aC Z<|eV<|lU ?_;exact AS (wI .i64 (b+(1:Int))) () h SF Z
  refine fL ?_;exact iH (b) () h SF Z
 intro a g h;unfold CL at h;refine aP<|aA Z<|aC Z<|aJ<|aU ?_;cases h;exact kY Z
def BB  (a:Int):Option (Int):=
 some (a)
def vF (c:aO) (a:eC) (b:gW->Option (Int)):Option (Int):=
 if a.2<(c.length:Int)then(ck (0<=a.2∧a.2<(c.length:Int)) (b ((min a.1 (at' c a.2)),(wI .i64 (a.2+(1:Int))))))else(BB  (a.1))
def Ea (U:Nat) (a:Int):Option (Int):=
 Option.bind (kH U a) λb=>(some (b))
def vG (U:Nat) (c:aO) (a:eC) (b:gW->Option (Int)):Option (Int):=
 if a.2<(c.length:Int)then(ck (0<=a.2∧a.2<(c.length:Int)) (b ((wI .i64 (a.1+(at' c a.2))),(wI .i64 (a.2+(1:Int))))))else(Ea U (a.1))
def CM (U:Nat) (b:Int) (a:aO):Option (Int):=
 if b=(20:Int)then(Option.bind (sJ U a) λi=>(Option.bind (jR U (decide (i=(a.length:Int)))) λj=>(some (j))))else(if b=(21:Int)then(Option.bind (sJ U a) λk=>(Option.bind (jR U (decide ((0:Int)<k))) λc=>(some (c))))else(if b=(22:Int)then(Option.bind (sJ U a) λd=>(some (d)))else(if b=(23:Int)then(Option.bind (o_ U a (λl=>qR U l)) λe=>(some (e)))else(if b=(24:Int)then(bH (vF a) U ((1073741824:Int),(0:Int)))else(if b=(25:Int)then(Option.bind (sK U a) λf=>(some (f.1)))else(if b=(26:Int)then(bH (vG U a) U ((0:Int),(0:Int)))else(if b=(27:Int)then(Option.bind (Cc U a) λg=>(some (g)))else(if b=(28:Int)then(Option.bind (sK U a) λh=>(some (h.2)))else(if(a.length:Int)=(0:Int)then(some (0:Int))else(ck (0<=(0:Int)∧(0:Int)<(a.length:Int)) (some (at' a (0:Int)))))))))))))
theorem acn:aS Tryz.prog 302:=Tryz.call302
theorem Sq (U:Nat) {H:Int} {g:aO} (f:Value) (r:Int) (h:CM U H g=some r):
  aY Tryz.prog 302 #[vI (H),f] [Sl bP f g] (λx:Unit=>vI (r)) (λx l=>l) (λ_ l=>l):=by
 refine aY.of Tryz.func302 Z Tryz.ntmps302 Z λc=>?_;refine aP<|aC Z<|aJ<|aK<|aP<|aA Z<|aJ<|aR<|aP<|bS Z<|aC Z<|aJ ?_;refine dK h Z (λh=>?_) λh=>?_
 ·refine aP<|aA Z<|dV h λK N h=>aG (zBb OZ (Eu U f K N) Z (kA [0] Z)) Z λY=>aA Z<|gS (aE.fact 0 Z) Z<|bS Z<|dV h λL O h=>aG (zBb AC (mC U  L O) Z .nil) Z λx7=>aC Z<|aJ<|aU<|bN<|aH ?_;cases h;exact kY Z
 refine aP<|bS Z<|aC Z<|aJ ?_;refine dK h Z (λh=>?_) λh=>?_
 ·refine aP<|aA Z<|dV h λM z h=>aG (zBb OZ (Eu U f M z) Z (kA [0] Z)) Z λP=>aD (Bp Z Z) Z<|dV h λq A h=>aG (zBb AC (mC U  q A) Z .nil) Z λQ=>aC Z<|aJ<|aU<|bN<|aH ?_;cases h;exact kY Z
 refine aP<|bS Z<|aC Z<|aJ ?_;refine dK h Z (λh=>?_) λh=>?_
 ·refine aP<|aA Z<|dV h λs B h=>aG (zBb OZ (Eu U f s B) Z (kA [0] Z)) Z λR=>aC Z<|aJ<|aU<|bN<|aH ?_;cases h;exact kY Z
 refine aP<|bS Z<|aC Z<|aJ ?_;refine dK h Z (λh=>?_) λh=>?_
 ·refine aP<|aA Z<|dV h λt C h=>aG (zBb acp (HG U 311 [] [] acq (λy0 r h=>Nt U  r h) f t C) Z (kA [0] Z)) Z λS=>aC Z<|aJ<|aU<|bN<|aH ?_;cases h;exact kY Z
 refine aP<|bS Z<|aC Z<|aJ ?_;refine dK h Z (λh=>?_) λh=>?_
 ·refine aP<|aC Z<|aJ<|aK<|eJ (λd=>BB  d=some r) (λd i=>[(5,vI (d))]) (λd i=>[]) ?_ ?_
  ·refine aP<|aA Z<|gS (aE.fact 0 Z) Z<|aA Z<|aJ<|aR<|eO (vF g) (λa j=>[(5,vI (a.1)),(40,f),(41,vI (g.length:Int)),(42,vI (a.2))]) (λa j=>[]) ((1073741824:Int),(0:Int)) () h SF (a_.refl _) ?_;intro I a j h;refine aP<|cO Z<|aJ<|aK ?_;refine dK h Z (λh=>?_) λh=>?_
   ·refine cG<|aK<|aR<|aP<|dQ h λn h=>aD (aZ Z Z (aE.fact 0 Z) Z Z n) Z<|aD (bV Z (aE.fact 0 Z) Z Z Z cT n) Z<|aC Z<|aJ<|aQ<|aA Z<|aA Z<|aD (UB Z Z) Z<|aC Z<|eV<|lU<|aQ<|cH Z<|aA Z<|aJ ?_;exact AS ((min a.1 (at' g a.2)),(wI .i64 (a.2+(1:Int)))) () h SF Z
   refine fL ?_;exact iH (a.1) () h SF Z
  intro d i h;unfold BB at h;refine aP<|aA Z<|aC Z<|aJ<|aU<|bN<|aH ?_;cases h;exact kY Z
 refine aP<|bS Z<|aC Z<|aJ ?_;refine dK h Z (λh=>?_) λh=>?_
 ·refine aP<|aA Z<|dV h λu D h=>aG (zBb U_ (Ck U f u D) Z (kA [0] Z)) Z λT=>aA Z<|iU Z<|iU Z<|aC Z<|aC Z<|aJ<|aP<|aA Z<|aC Z<|aJ<|aU<|bN<|aH ?_;cases h;exact kY Z
 refine aP<|bS Z<|aC Z<|aJ ?_;refine dK h Z (λh=>?_) λh=>?_
 ·refine aP<|aC Z<|aJ<|aK<|eJ (λe=>Ea U e=some r) (λe k=>[(10,vI (e))]) (λe k=>[]) ?_ ?_
  ·refine aP<|aA Z<|gS (aE.fact 0 Z) Z<|aA Z<|aJ<|aR<|eO (vG U g) (λb m=>[(10,vI (b.1)),(61,f),(62,vI (g.length:Int)),(63,vI (b.2))]) (λb m=>[]) ((0:Int),(0:Int)) () h SF (a_.refl _) ?_;intro J b m h;refine aP<|cO Z<|aJ<|aK ?_;refine dK h Z (λh=>?_) λh=>?_
   ·refine cG<|aK<|aR<|aP<|dQ h λo h=>aD (aZ Z Z (aE.fact 0 Z) Z Z o) Z<|aD (bV Z (aE.fact 0 Z) Z Z Z cT o) Z<|aC Z<|aJ<|aQ<|aA Z<|aA Z<|cH Z<|aC Z<|eV<|lU<|aQ<|cH Z<|aA Z<|aJ ?_;exact AS ((wI .i64 (b.1+(at' g b.2))),(wI .i64 (b.2+(1:Int)))) () h SF Z
   refine fL ?_;exact iH (b.1) () h SF Z
  intro e k h;refine aP<|aA Z<|dV h λv E h=>aG (zBb FZ (oE U  v E) Z .nil) Z λV=>aC Z<|aJ<|aU<|bN<|aH ?_;cases h;exact kY Z
 refine aP<|bS Z<|aC Z<|aJ ?_;refine dK h Z (λh=>?_) λh=>?_
 ·refine aP<|aA Z<|dV h λw F h=>aG (zBb acr (Ul U f w F) Z (kA [0] Z)) Z λW=>aC Z<|aJ<|aU<|bN<|aH ?_;cases h;exact kY Z
 refine aP<|bS Z<|aC Z<|aJ ?_;refine dK h Z (λh=>?_) λh=>?_
 ·refine aP<|aA Z<|dV h λy G h=>aG (zBb U_ (Ck U f y G) Z (kA [0] Z)) Z λX=>aA Z<|iU Z<|iU Z<|aC Z<|aC Z<|aJ<|aP<|aA Z<|aC Z<|aJ<|aU<|bN<|aH ?_;cases h;exact kY Z
 refine dD<|lU<|aK<|aP<|aA Z<|gS (aE.fact 0 Z) Z<|bS Z<|aJ ?_;refine dK h Z (λh=>?_) λh=>?_
 ·refine aP<|aC Z<|aJ<|aU<|aH ?_;cases h;exact kY Z
 refine cG<|aP<|aA Z<|dQ h λp h=>aD (aZ Z Z (aE.fact 0 Z) Z Z p) Z<|aD (bV Z (aE.fact 0 Z) Z Z Z cT p) Z<|aC Z<|aJ<|aU ?_;cases h;exact kY Z
def pE  (a:eC):Option gW:=
 some (a.1,a.2)
def lI (U:Nat) (a:Qj) (e:Int) (b:lZ) (c:Int):Option gW:=
 ck (0<=((at' a.1.2.1.2 a.2.2.1).length:Int)∧((at' a.1.2.1.2 a.2.2.1).length:Int)<=((24:Nat):Int)∧((at' a.1.2.1.2 a.2.2.1).length:Int)<=(b.2.length:Int)) (Option.bind (CM U ((at' a.2.2.2 e).1) (List.take (Int.toNat ((at' a.1.2.1.2 a.2.2.1).length:Int)) b.2)) λd=>(pE  (d,c)))
def tM (U:Nat) (b:Qj) (c:Int) (a:lZ):Option gW:=
 if((at' b.1.2.1.2 b.2.2.1).length:Int)=(0:Int)then(Option.bind (Ej U b.2.2.2 c) λd=>(lI U b c a (d)))else(lI U b c a (a.1))
def lJ (U:Nat) (b:Qj) (e:Int) (f:adG->Int->Int->Option gW) (a:Int×Int×aO) (c:(Int×Int×aO)->Option gW):Option gW:=
 if a.2.1<((at' b.1.2.1.2 b.2.2.1).length:Int)then(Option.bind (f ((((((b.1.1.1,b.1.1.2.1,b.1.1.2.2)),((b.1.2.1.1,b.1.2.1.2)),b.1.2.2.1,b.1.2.2.2)),b.2.1,b.2.2.1,b.2.2.2)) (wI .i64 (e+(1:Int))) a.2.1) λd=>(ck ((0<=a.2.1∧a.2.1<((24:Nat):Int))∧a.2.2.length=24) (c (d.2,(wI .i64 (a.2.1+(1:Int))),(List.set a.2.2 (Int.toNat a.2.1) d.1)))))else(tM U b e (a.1,a.2.2))
def dR (e:adG->Int->Int->Option gW) (U:Nat) (a:Qj) (b:Int) (c:Int):Option gW:=
 ck (0<=b∧b<(a.2.2.2.length:Int)) (if((at' a.2.2.2 b).1)<=(17:Int)then(Option.bind (nM U ((((((a.1.1.1,a.1.1.2.1,a.1.1.2.2)),((a.1.2.1.1,a.1.2.1.2)),a.1.2.2.1,a.1.2.2.2)),a.2.1,a.2.2.1,a.2.2.2)) ((((at' a.2.2.2 b).1),((at' a.2.2.2 b).2))) c) λm=>(some (m,(wI .i64 (b+(1:Int))))))else(if((at' a.2.2.2 b).1)<=(19:Int)then(Option.bind (e ((((((a.1.1.1,a.1.1.2.1,a.1.1.2.2)),((a.1.2.1.1,a.1.2.1.2)),a.1.2.2.1,a.1.2.2.2)),a.2.1,a.2.2.1,a.2.2.2)) (wI .i64 (b+(1:Int))) c) λl=>(Option.bind (BC U ((at' a.2.2.2 b).1) l.1) λj=>(some (j,l.2))))else(if((at' a.2.2.2 b).1)<=(29:Int)then(ck (0<=a.2.2.1∧a.2.2.1<(a.1.2.1.2.length:Int)) (bH (lJ U a b e) U ((0:Int),(0:Int),(List.replicate 24 (0:Int)))))else(if((at' a.2.2.2 b).1)<=(42:Int)then(Option.bind (e ((((((a.1.1.1,a.1.1.2.1,a.1.1.2.2)),((a.1.2.1.1,a.1.2.1.2)),a.1.2.2.1,a.1.2.2.2)),a.2.1,a.2.2.1,a.2.2.2)) (wI .i64 (b+(1:Int))) c) λf=>(Option.bind (e ((((((a.1.1.1,a.1.1.2.1,a.1.1.2.2)),((a.1.2.1.1,a.1.2.1.2)),a.1.2.2.1,a.1.2.2.2)),a.2.1,a.2.2.1,a.2.2.2)) f.2 c) λg=>(Option.bind (AH U ((at' a.2.2.2 b).1) f.1 g.1) λk=>(some (k,g.2)))))else(Option.bind (e ((((((a.1.1.1,a.1.1.2.1,a.1.1.2.2)),((a.1.2.1.1,a.1.2.1.2)),a.1.2.2.1,a.1.2.2.2)),a.2.1,a.2.2.1,a.2.2.2)) (wI .i64 (b+(1:Int))) c) λh=>(Option.bind (e ((((((a.1.1.1,a.1.1.2.1,a.1.1.2.2)),((a.1.2.1.1,a.1.2.1.2)),a.1.2.2.1,a.1.2.2.2)),a.2.1,a.2.2.1,a.2.2.2)) h.2 c) λi=>(Option.bind (e ((((((a.1.1.1,a.1.1.2.1,a.1.1.2.2)),((a.1.2.1.1,a.1.2.1.2)),a.1.2.2.1,a.1.2.2.2)),a.2.1,a.2.2.1,a.2.2.2)) i.2 c) λd=>(if h.1≠(0:Int)then(some (i.1,d.2))else(some (d.1,d.2))))))))))
def bZ:Nat->adG->Int->Int->Option gW
 |0,_,_,_=>none
 |U+1,p0,p1,p2=>dR (bZ U) U p0 p1 p2
theorem CK:aS Tryz.prog 275:=Tryz.call275
theorem Et (X:adG->Int->Int->Option gW) (U:Nat) (p:∀{a:Qj} {m:Int} {M:Int} (b:Nat)  (f:Nat)  (q:Value)  (s:Value)  (t:Value)  (u:Value)  (C:jO)  (v:Value)  (D:sY)  (w:Value)  (g:sY)  (d:Value) (r:eC),X a m M=some r->aY Tryz.prog 275 #[vP b,vI (m),vI (M)] [bM b [vP f,w,vI (a.2.2.1),d] 242,bM f [vS (a.1.1.1),q,s,t,u,vI (a.1.2.2.1),v] 196,Sl aX q a.1.1.2.1,Sl aM s a.1.1.2.2,Sl bP t a.1.2.1.1,S2 aV u C a.1.2.1.2,S2 bP v D a.1.2.2.2,S2 bP w g a.2.1,Sl aV d a.2.2.2] (λx:Unit=>Value.tuple #[vI (r.1),vI (r.2)]) (λx l=>l) (λ_ l=>l)) {a:Qj} {m:Int} {M:Int} (b:Nat)  (f:Nat)  (q:Value)  (s:Value)  (t:Value)  (u:Value)  (C:jO)  (v:Value)  (D:sY)  (w:Value)  (g:sY)  (d:Value) (r:eC) (h:dR X U a m M=some r):
  aY Tryz.prog 275 #[vP b,vI (m),vI (M)] [bM b [vP f,w,vI (a.2.2.1),d] 242,bM f [vS (a.1.1.1),q,s,t,u,vI (a.1.2.2.1),v] 196,Sl aX q a.1.1.2.1,Sl aM s a.1.1.2.2,Sl bP t a.1.2.1.1,S2 aV u C a.1.2.1.2,S2 bP v D a.1.2.2.2,S2 bP w g a.2.1,Sl aV d a.2.2.2] (λx:Unit=>Value.tuple #[vI (r.1),vI (r.2)]) (λx l=>l) (λ_ l=>l):=by
 refine aY.of Tryz.func275 Z Tryz.ntmps275 Z λc=>?_;refine aP<|aC Z<|aC Z<|aJ<|aP<|aA Z<|aD (cF Z) Z<|bY Z<|aD (cY Z (aE.fact 0 Z) Z Z Z) Z<|aA Z<|dQ h λj1 h=>aD (aZ Z Z (aE.fact 8 Z) Z Z j1) Z<|aD (eM (cs:=[vI ((at' a.2.2.2 m).1),vI ((at' a.2.2.2 m).2)]) Z (aE.fact 8 Z) bD Z Z Z Z j1) Z<|aG (aI.alloc (cs:=Ni) Z Z) Z λb2=>bK 0 (vs:=[vI ((at' a.2.2.2 m).1),vI ((at' a.2.2.2 m).2)]) Z Z Z Z Z Z<|aJ<|aK<|aR<|aP<|bY Z<|cR 0 Z<|aD (Dn Z Z) Z<|aC Z<|aJ ?_;refine dK h Z (λh=>?_) λh=>?_
 ·refine aP<|aA Z<|cA 0 Z<|aA Z<|dV h λr4 w5 h=>aG (zBb acj (GC U b f q s t u C v D w g d r4 w5) Z (kA [0,1,2,3,4,5,6,7,8] Z)) Z λx6=>aA Z<|cH Z<|aC Z<|aC Z<|aJ<|aU<|bN<|aH ?_;cases h;exact iG () Z Z (RV.tmp Z) (RV.tmp Z) .nil aB.nil
 refine aP<|bY Z<|cR 0 Z<|aD (Dn Z Z) Z<|aC Z<|aJ ?_;refine dK h Z (λh=>?_) λh=>?_
 ·refine aP<|aA Z<|aA Z<|cH Z<|aA Z<|dV h λr8 w9 h=>aG (zBb CK (p b f q s t u C v D w g d r8 w9) Z (kA [0,1,2,3,4,5,6,7,8] Z)) Z λak=>aA Z<|iU Z<|iU Z<|aC Z<|aC Z<|aJ<|aP<|bY Z<|cR 0 Z<|aA Z<|dV h λP Y h=>aG (zBb ack (Qb U  P Y) Z .nil) Z λal=>aA Z<|aC Z<|aC Z<|aJ<|aU<|bN<|aH ?_;cases h;exact iG () Z Z (RV.tmp Z) (RV.tmp Z) .nil aB.nil
 refine aP<|bY Z<|cR 0 Z<|aD (Dn Z Z) Z<|aC Z<|aJ ?_;refine dK h Z (λh=>?_) λh=>?_
 ·refine aP<|aA Z<|bY Z<|cR 0 Z<|aA Z<|qN (A:=eC) (B:=Unit) (vs:=[vP b,vI ((at' a.2.2.2 m).1),vI (m)]) (λn=>pE  n=some r) (λn G=>Value.tuple #[vI (n.1),vI (n.2)]) (λn G=>[]) (λn G=>[bM b [vP f,w,vI (a.2.2.1),d] 242,bM f [vS (a.1.1.1),q,s,t,u,vI (a.1.2.2.1),v] 196,Sl aX q a.1.1.2.1,Sl aM s a.1.1.2.2,Sl bP t a.1.2.1.1,S2 aV u C a.1.2.1.2,S2 bP v D a.1.2.2.2,S2 bP w g a.2.1,Sl aV d a.2.2.2]) (nT.fn (show aS Tryz.prog 293 from Tryz.call293) Z) Tryz.func293 Z Tryz.ntmps293 Z Z ?_ ?_
  ·refine aP<|aC Z<|aC Z<|aJ<|aP ?_;refine aG (aI.alloc (cs:=cellsOf cB (List.replicate 24 (0:Int))) Z (by kernel_rfl)) Z λo=>?_;refine aJ<|aK ?_;refine JR.start [0,1,3,7,15,31,63,127,0,256,768,1792,4095,8191,16383,32767] 12 mixedOrders (by decide +kernel) ?_;refine zBe (by exact rfl) ?_;refine bA Z<|gO Z (cF Z)<|dJ Z<|bG Z .nil (hZ 0 Z) (cY Z (aE.fact 0 Z) Z Z Z) aN.z<|gO Z (cF Z)<|dJ Z<|dJ Z<|bG Z .nil (hZ 1 Z) (cY Z (aE.fact 0 Z) Z Z Z) aN.z<|bA Z<|gO Z (cF Z)<|dJ Z<|bG Z .nil (hZ 0 Z) (cY Z (aE.fact 0 Z) Z Z Z) aN.z<|bR 12 Z Z<|dQ h λE h=>aD (cV Z Z (aE.fact 5 Z) Z Z E) Z<|aD (cP Z (aE.fact 5 Z) Z Z E) Z<|aD (fF Z (zBd (aE.fact 5 Z) E.1 E.2) Z) Z<|aC Z<|aJ<|aK<|eJ (λk=>tM U a m k=some r) (λk H=>[(0,vP b),(1,vI ((at' a.2.2.2 m).1)),(2,vI (m)),(7,vI (k.1)),(8,vP o),(9,vI ((at' a.1.2.1.2 a.2.2.1).length:Int))]) (λk H=>[bM o (cellsOf cB k.2) 257]) ?_ ?_
   ·refine aP<|aA Z<|aA Z<|aJ<|aR<|eO (lJ U a m X) (λj J=>[(0,vP b),(1,vI ((at' a.2.2.2 m).1)),(2,vI (m)),(7,vI (j.1)),(8,vP o),(9,vI ((at' a.1.2.1.2 a.2.2.1).length:Int)),(26,vI ((at' a.1.2.1.2 a.2.2.1).length:Int)),(27,vI (j.2.1))]) (λj J=>[bM o (cellsOf cB j.2.2) 257]) ((0:Int),(0:Int),(List.replicate 24 (0:Int))) () h SF (a_.ix [0] Z Z) ?_;intro aj j J h;refine aP<|cO Z<|aJ<|aK ?_;refine dK h Z (λh=>?_) λh=>?_
    ·refine cG<|aK<|aR<|aP<|aA Z<|aC Z<|aJ<|aQ<|aA Z<|aA Z<|aA Z<|cH Z<|aA Z<|dV h λF ac h=>aG (zBb CK (p b f q s t u C v D w g d F ac) Z (kA [0,1,2,3,4,5,6,7,8] Z)) Z λao=>aA Z<|iU Z<|iU Z<|dQ h λL h=>aD (lP Z Z Z Z Z L.1) Z<|Ls 0 (e:=cB) F.1 L Z Z Z Z Z Z Z<|aC Z<|eV<|lU<|aQ<|cH Z<|aA Z<|aJ ?_;exact AS (F.2,(wI .i64 (j.2.1+(1:Int))),(List.set j.2.2 (Int.toNat j.2.1) F.1)) () h SF Z
    refine fL ?_;exact iH (j.1,j.2.2) () h SF Z
   intro k H h;refine aK<|eJ (λy=>lI U a m k y=some r) (λy I=>[(1,vI ((at' a.2.2.2 m).1)),(7,vI (y)),(8,vP o),(9,vI ((at' a.1.2.1.2 a.2.2.1).length:Int))]) (λy I=>[bM o (cellsOf cB k.2) 257]) ?_ ?_
   ·refine aP<|aA Z<|bS Z<|aJ ?_;refine dK h Z (λh=>?_) λh=>?_
    ·refine aQ<|aA Z<|aD (cF Z) Z<|bY Z<|aD (cY Z (aE.fact 0 Z) Z Z Z) Z<|aA Z<|dV h λO ab h=>aG (zBb ach (Um U d O ab) Z (kA [8] Z)) Z λan=>aC Z<|aJ ?_;exact iH (O) () h SF Z
    refine cG ?_;exact iH (k.1) () h SF Z
   intro y I h;refine aP<|aA Z<|aA Z<|dQ h λK h=>aD (Tq Z Z Z Z K) Z<|dV h λN aa h=>aG (zBb acn (Sq U (Value.slice (some ⟨o,0,none⟩) (Int.toNat ((at' a.1.2.1.2 a.2.2.1).length:Int)) 24) N aa) Z (aB.cons (XR (i:=0) Z cD K (by decide)) .nil)) Z λam=>?_;refine aA Z<|aC Z<|aC Z<|aJ<|aU ?_;exact jV (N,y) () h (.inl Z) (Cu.r2 Z (RV.tmp Z) (RV.tmp Z)) Z .nil (aB.refl _ _)
  intro n G h;unfold pE at h;refine iU Z<|iU Z<|aC Z<|aC Z<|aJ<|aU<|bN<|aH ?_;cases h;exact iG () Z Z (RV.tmp Z) (RV.tmp Z) (a_.refl _) aB.nil
 refine aP<|bY Z<|cR 0 Z<|aD (Dn Z Z) Z<|aC Z<|aJ ?_;refine dK h Z (λh=>?_) λh=>?_
 ·refine aP<|aA Z<|aA Z<|cH Z<|aA Z<|dV h λQ ad h=>aG (zBb CK (p b f q s t u C v D w g d Q ad) Z (kA [0,1,2,3,4,5,6,7,8] Z)) Z λap=>aA Z<|iU Z<|iU Z<|aC Z<|aC Z<|aJ<|aP<|aA Z<|aA Z<|aA Z<|dV h λR ae h=>aG (zBb CK (p b f q s t u C v D w g d R ae) Z (kA [0,1,2,3,4,5,6,7,8] Z)) Z λaq=>aA Z<|iU Z<|iU Z<|aC Z<|aC Z<|aJ<|aP<|bY Z<|cR 0 Z<|aA Z<|aA Z<|dV h λS af h=>aG (zBb acl (Ns U  S af) Z .nil) Z λar=>aA Z<|aC Z<|aC Z<|aJ<|aU<|bN<|aH ?_;cases h;exact iG () Z Z (RV.tmp Z) (RV.tmp Z) .nil aB.nil
 refine dD<|lU<|aP<|aA Z<|aA Z<|cH Z<|aA Z<|dV h λT ag h=>aG (zBb CK (p b f q s t u C v D w g d T ag) Z (kA [0,1,2,3,4,5,6,7,8] Z)) Z λau=>aA Z<|iU Z<|iU Z<|aC Z<|aC Z<|aJ<|aP<|aA Z<|aA Z<|aA Z<|dV h λV ah h=>aG (zBb CK (p b f q s t u C v D w g d V ah) Z (kA [0,1,2,3,4,5,6,7,8] Z)) Z λav=>aA Z<|iU Z<|iU Z<|aC Z<|aC Z<|aJ<|aP<|aA Z<|aA Z<|aA Z<|dV h λW ai h=>aG (zBb CK (p b f q s t u C v D w g d W ai) Z (kA [0,1,2,3,4,5,6,7,8] Z)) Z λaw=>aA Z<|iU Z<|iU Z<|aC Z<|aC Z<|aJ<|aK<|aP<|aA Z<|pC Z<|aJ ?_;refine dK h Z (λh=>?_) λh=>?_
 ·refine aP<|aA Z<|aA Z<|aC Z<|aC Z<|aJ<|aU<|aH ?_;cases h;exact iG () Z Z (RV.tmp Z) (RV.tmp Z) .nil aB.nil
 refine cG<|aP<|aA Z<|aA Z<|aC Z<|aC Z<|aJ<|aU ?_;cases h;exact iG () Z Z (RV.tmp Z) (RV.tmp Z) .nil aB.nil
theorem FD (U:Nat):∀{a:Qj} {p:Int} {q:Int} (b:Nat)  (c:Nat)  (f:Value)  (g:Value)  (i:Value)  (j:Value)  (n:jO)  (k:Value)  (o:sY)  (m:Value)  (e:sY)  (d:Value) (r:eC),bZ U a p q=some r->
  aY Tryz.prog 275 #[vP b,vI (p),vI (q)] [bM b [vP c,m,vI (a.2.2.1),d] 242,bM c [vS (a.1.1.1),f,g,i,j,vI (a.1.2.2.1),k] 196,Sl aX f a.1.1.2.1,Sl aM g a.1.1.2.2,Sl bP i a.1.2.1.1,S2 aV j n a.1.2.1.2,S2 bP k o a.1.2.2.2,S2 bP m e a.2.1,Sl aV d a.2.2.2] (λx:Unit=>Value.tuple #[vI (r.1),vI (r.2)]) (λx l=>l) (λ_ l=>l):=by
 induction U with
 |zero=>intros;rename_i h;cases h
 |succ U s=>exact λb c f g i j n k o m e d r h=>Et (bZ U) U s b c f g i j n k o m e d r h
end Go.Proofs.YtcnnfkapmjhnaaaGreatDoor