/- Models and proofs. Conditions: none. -/
import Derived.Test.YtpenklncfhiloaaGreatDoorZCLi1
import Derived.Maps.RangeRun
set_option linter.unusedVariables false
set_option linter.unusedSimpArgs false
set_option maxHeartbeats 4000000
set_option maxRecDepth 20000
section
namespace Go.Sx
theorem dM {X R:Type} {step:X->(X->Option R)->Option R} {K:Option R} (N:Nat) (F:Nat->X) (b:∀(k:Nat) e,k<N->step (F k) e=e (F (k+1))) (c:∀e,step (F N) e=K):∀fuel,N<fuel->bM step fuel (F 0)=K:=by
 have h:∀(d a fuel:Nat),a+d=N->d<fuel->bM step fuel (F a)=K:=by
  intro d
  induction d with
  |zero=>
   intro a fuel i g
   obtain rfl:a=N:=by omega
   obtain⟨f,rfl⟩:∃f,fuel=f+1:=⟨fuel - 1,by omega⟩
   exact c _
  |succ d j=>
   intro a fuel i g
   obtain⟨f,rfl⟩:∃f,fuel=f+1:=⟨fuel - 1,by omega⟩
   show step (F a) (bM step f)=K
   rw[b a _ (by omega)]
   exact j (a+1) f (by omega) (by omega)
 exact fun fuel g=>h N 0 fuel (by omega) g
theorem yK {X R:Type} {step:X->(X->Option R)->Option R} {K:X->Option R} (N:Nat) (I:Nat->X->Prop) (c:∀(k:Nat) x h,k<N->I k x->∃b,I (k+1) b∧step x h=h b) (g:∀x h,I N x->step x h=K x):∀fuel x,I 0 x->N<fuel->∃b,I N b∧bM step fuel x=K b:=by
 have l:∀(d a fuel:Nat) (x:X),a+d=N->d<fuel->I a x->∃b,I N b∧bM step fuel x=K b:=by
  intro d
  induction d with
  |zero=>
   intro a fuel x o j e
   obtain rfl:a=N:=by omega
   obtain⟨f,rfl⟩:∃f,fuel=f+1:=⟨fuel - 1,by omega⟩
   exact⟨x,e,g _ _ e⟩
  |succ d q=>
   intro a fuel x o j e
   obtain⟨f,rfl⟩:∃f,fuel=f+1:=⟨fuel - 1,by omega⟩
   obtain⟨b,i,p⟩:=c a x (bM step f) (by omega) e
   obtain⟨r,m,n⟩:=q (a+1) f b (by omega) (by omega) i
   exact⟨r,m,by rw[<-n];exact p⟩
 exact fun fuel x e j=>l N 0 fuel x (by omega) j e
def zN (q:Nat->Bool):Nat->Bool
 |0=>false
 |k+1=>zN q k||q k
theorem LC {q:Nat->Bool}:∀{k:Nat},zN q k=true↔∃i,i<k∧q i=true
 |0=>by simp[zN]
 | k + 1 => by
  simp only[zN,Bool.or_eq_true,LC (k:=k)]
  constructor
  ·rintro(⟨i,b,a⟩|h)
   ·exact⟨i,by omega,a⟩
   ·exact⟨k,by omega,h⟩
  ·rintro⟨i,b,a⟩
   by_cases e:i=k
   ·subst e;exact .inr a
   ·exact .inl ⟨i,by omega,a⟩
def sJ (p:Nat->Bool):Nat->Nat
 |0=>0
 |k+1=>if p k then sJ p k ||| 2^k else sJ p k
theorem Mb (p:Nat->Bool):∀k,sJ p k<2^k
 |0=>by simp[sJ]
 |k+1=>by
  have h:=Mb p k
  simp only[sJ]
  split
  ·exact Nat.or_lt_two_pow (by omega) (Nat.pow_lt_pow_right (by omega) (by omega))
  ·omega
theorem Fi (p:Nat->Bool) (j:Nat):∀k,(sJ p k).testBit j=(decide (j<k)&&p j)
 |0=>by simp[sJ]
 | k + 1 => by
  have h:=Fi p j k
  simp only[sJ]
  by_cases e:j=k
  ·subst e
   cases c:p j<;>simp[h,c]
  ·have a:decide (j<k+1)=decide (j<k):=decide_eq_decide.2 (by omega)
   have b:¬k=j:=fun h=>e h.symm
   split
   ·rw[Nat.testBit_or,h,Nat.testBit_two_pow,a];simp[b]
   ·rw[h,a]
end Go.Sx
end
section
set_option linter.unusedSectionVars false
namespace Go.Sx
open Go.RowKit
section defs
variable {κ ν:Type} [DecidableEq κ]
def BP (a:κ->Value) (b:ν->Value):Nat->List (κ×ν)->List MapEntry
 |_,[]=>[]
 |i,x::xs=>⟨a x.1,b x.2,i⟩::BP a b (i+1) xs
def lI (k:κ):List (κ×ν)->Option ν
 | []=>none
 |x::xs=>if k=x.1 then some x.2 else lI k xs
def AY (k:κ) (v:ν):List (κ×ν)->List (κ×ν)
 | []=>[(k,v)]
 |x::xs=>if k=x.1 then(k,v)::xs else x::AY k v xs
def QM (a:ν->Value) (k:κ):Nat->List (κ×ν)->Option (Nat×Value)
 |_,[]=>none
 |i,x::xs=>if k=x.1 then some (i,a x.2)else QM a k (i+1) xs
theorem Kk (a:ν->Value) (k:κ):∀(i:Nat) (l:List (κ×ν)),(QM a k i l).map (·.2)=(lI k l).map a
 |_,[]=>rfl
 |i,x::xs=>by
  simp only[QM,lI]
  split
  ·rfl
  ·exact Kk a k (i+1) xs
theorem HR (a:κ->Value) (b:ν->Value):∀(i:Nat) (l:List (κ×ν)) (x:κ×ν),BP a b i (l++[x])=BP a b i l++[⟨a x.1,b x.2,i+l.length⟩]
 |i,[],x=>rfl
 |i,y::ys,x=>by
  simp only[List.cons_append,BP,HR a b (i+1) ys x,List.length_cons]
  rw[show i+1+ys.length=i+(ys.length+1) by omega]
theorem Fl (k:κ) (v:ν):∀l:List (κ×ν),lI k l=none->AY k v l=l++[(k,v)]
 | [],_=>rfl
 | x :: xs, h => by
  simp only[lI]at h
  split at h
  ·cases h
  ·rename_i a
   simp only[AY,if_neg a,Fl k v xs h,List.cons_append]
theorem Pk (a:κ->Value) (b:ν->Value) (k:κ) (v:ν):∀(i0 i:Nat) (l:List (κ×ν)) (j:Nat) (u:Value),QM b k i l=some (j,u)->
  i<=j∧((BP a b i l)[j - i]?).map (·.key)=some (a k)∧BP a b i (AY k v l)=(BP a b i l).modify (j - i) (fun e=>{e with key:=a k,val:=b v})∧(AY k v l).length=l.length
 |_,i,[],j,u,h=>by simp[QM]at h
 | i0, i, x :: xs, j, u, h => by
  simp only[QM]at h
  split at h
  ·rename_i n
   simp only[Option.some.injEq,Prod.mk.injEq]at h
   obtain⟨rfl,_⟩:=h
   simp[BP,AY,n]
  ·rename_i c
   obtain⟨o,f,g,m⟩:=Pk a b k v i0 (i+1) xs j u h
   have d:j - i=(j - (i+1))+1:=by omega
   refine⟨by omega,?_,?_,?_⟩
   ·rw[d];simpa [BP]using f
   ·simp only[AY,if_neg c,BP]
    rw[d,List.modify_succ_cons,g]
   ·simp[AY,c,m]
end defs
structure GW (P:Program) (kt:TypeId) {κ:Type} [DecidableEq κ] (ek:κ->Value):Prop where
 chk:∀b k w,(Instr.checkKey b 10000 kt (ek k)).run P w = .ok () w
 find:∀{ν:Type} (ev:ν->Value) (k:κ) (l:List (κ×ν)) w,(Instr.findKey kt (ek k) (BP ek ev 0 l)).run P w = .ok (QM ev k 0 l) w
 same:∀k,Instr.sameBits 10000 (ek k) (ek k)=true
def Mp {b c:Type} (d:b->Value) (e:c->Value) (r:Nat) (l:List (b×c)):aX where
 p w F:=F r∧w.heap[r]? = some (.map (BP d e 0 l).toArray l.length)
 mono:=fun⟨f,a⟩ h=>by
  obtain⟨g,i⟩:=h r f (Array.getElem?_eq_some_iff.1 a).1
  exact⟨g,by rw[i];exact a⟩
section
variable {P:Program} {rd:Option Nat} {c:tP} {n:Sz} {σ:Fr} {M L:List aX} {Q:Exit->Act->World->Prop} {ops:Array Oper} {rest:List Oper}
variable {d:Option Tmp} {ty:TypeId} {pos:String} {aft:Array Edge} {g:Option (Nat×Bool)}
theorem St.push {w:World} (t:St c M L w) (o:Obj) {m:aX} (z:m.p (w.alloc o) (fun k=>k=w.heap.size)):St c (m::M) L (w.alloc o):=by
 have e:JJ w (w.alloc o):=(Below.refl _ _).alloc (Nat.le_refl _) _
 obtain⟨v,F,b,x⟩:=t
 have u:∀k,k<w.heap.size->(w.alloc o).heap[k]? = w.heap[k]? := e.block
 refine⟨v.trans e,fun i k=>match i with|0=>k=w.heap.size|i+1=>F i k,⟨?_,?_,?_⟩,fun f y=> ?_⟩
 ·intro i A a
  cases i with
  |zero=>simp at a;subst a;exact z
  |succ i=>exact aX.same (b.res i A (by simpa using a)) (fun _ h=>h) (fun k _ s=>u k s)
 ·intro i k q
  cases i with
  |zero=>subst q;exact⟨.inl v.size,by simp⟩
  |succ i=>exact⟨(b.rng i k q).1,Nat.lt_of_lt_of_le (b.rng i k q).2 e.size⟩
 ·intro i j k l r
  cases i with
  |zero=>
   cases j with
   |zero=>rfl
   |succ j=>have:=(b.rng j k r).2;simp only at l;omega
  |succ i=>
   cases j with
   |zero=>have:=(b.rng i k l).2;simp only at r;omega
   |succ j=>exact congrArg (· + 1) (b.dis i j k l r)
 ·exact f.mono (x f y) fun k q s=>⟨⟨q.1,fun i l=>by
   cases i with
   |zero=>simp only at l;omega
   |succ i=>exact q.2 i l⟩,u k s⟩
variable {κ ν:Type} [DecidableEq κ] {ek:κ->Value} {ev:ν->Value}
theorem aG.makeMap (ek:κ->Value) (ev:ν->Value) {T:TypeId}:aG P c n σ M L ⟨d,.makeMap T none,ty,pos,aft,g⟩ (fun r:Nat=> .map (some r)) (fun r=>Mp ek ev r []::M) (fun _=>L):=fun a w s t=>by
 have b:(execOp a.eval ⟨d,.makeMap T none,ty,pos,aft,g⟩).run P w = .ok (.value (.map (some w.heap.size))) (w.alloc (.map #[] 0)):=by
  simp[execOp,Instr.makeMap]
 simp only[Oper.wp,b,Oper.upon]
 exact⟨w.heap.size,rfl,t.push _ ⟨rfl,heap_alloc_new w _⟩⟩
theorem Ol [cA P] {T j m:TypeId} {C D E G:Nat} {z f:Value} {o:TypeDesc} {w:World} {r:Nat} {l:List (κ×ν)} {F:Nat->Prop} (i:GW P j ek) (q:(Mp ek ev r l).p w F)
  (s:cA.tab P T=some ⟨.map j m,C,D,z⟩) (t:cA.tab P m=some ⟨o,E,G,f⟩) (k:κ) (b:Bool):
  (Instr.lookup T (.map (some r)) (ek k) b).run P w = .ok (if b then .tuple #[((lI k l).map ev).getD f,.bool (lI k l).isSome]else((lI k l).map ev).getD f) w:=by
 have y:(getObj r).run P w = .ok (.map (BP ek ev 0 l).toArray l.length) w:=by
  simp[getObj,Sem.run,q.2]
 have u:=i.find ev k l w
 have a:=Kk ev k 0 l
 simp only[Instr.lookup]
 simp[(cA.ok s).run_und w,y,i.chk,u]
 cases e:QM ev k 0 l with
 |none=>
  rw[e]at a
  have:lI k l=none:=by cases h:lI k l<;>simp[h]at a ⊢
  simp[this,(cA.ok t).run_zero w]
 | some x =>
  rw[e]at a
  obtain⟨v,A,B⟩:∃v,lI k l=some v∧ev v=x.2:=by
   cases h:lI k l with
   |none=>simp[h]at a
   |some v=>simp[h]at a;exact⟨v,rfl,a.symm⟩
  simp[A,B]
theorem Lz [cA P] (j:Nat) {T e f:TypeId} {D E G H:Nat} {z h:Value} {i:TypeDesc} {x y:Operand} {r:Nat} {l:List (κ×ν)} (k:κ) {b:Bool} (v:GW P e ek) (B:Go.Sx.ev σ x=some (.map (some r))) (C:Go.Sx.ev σ y=some (ek k)) (q:M[j]? = some (Mp ek ev r l))
  (o:cA.tab P T=some ⟨.map e f,D,E,z⟩) (p:cA.tab P f=some ⟨i,G,H,h⟩) {u:Value} (A:((lI k l).map ev).getD h=u):
  Y P c n σ M L ⟨d,.lookup T x y b,ty,pos,aft,g⟩ (if b then .tuple #[u,.bool (lI k l).isSome]else u):=fun a w s t=>by
 obtain⟨F,m⟩:=t.res q
 subst A
 simp[execOp,s.eval B,s.eval C,Ol v m o p]
theorem BR {w:World} {r:Nat} {a:Array MapEntry} {k:Nat} (h:w.heap[r]? = some (.map a k)) (o:Obj):(setObj r o).run P w = .ok () {w with heap:=w.heap.setIfInBounds r o}:=by
 simp[setObj,Sem.run,h]
theorem St.setMap {w:World} (t:St c M L w) {j r:Nat} {l b:List (κ×ν)} (f:M[j]? = some (Mp ek ev r l)) (o:Obj) (m:o = .map (BP ek ev 0 b).toArray b.length):
  St c (M.set j (Mp ek ev r b)) L {w with heap:=w.heap.setIfInBounds r o}:=
 t.upd f rfl rfl rfl (by simp) fun F a _=>⟨fun k _ i=>by
   rw[Array.getElem?_setIfInBounds_ne (fun e=>i (by subst e;exact a.1))],F,⟨a.1,by
    rw[Array.getElem?_setIfInBounds_self_of_lt (Array.getElem?_eq_some_iff.1 a.2).1,m]⟩,fun _ h=> .inl h⟩
theorem K_ [cA P] (j:Nat) {T R vt:TypeId} {s1 s2:Nat} {z:Value} {x y v:Operand} {r:Nat} {l:List (κ×ν)} (k:κ) (f:ν) (C:GW P R ek) (Y:Go.Sx.ev σ x=some (.map (some r))) (Z:Go.Sx.ev σ y=some (ek k)) (X:Go.Sx.ev σ v=some (ev f)) (K:M[j]? = some (Mp ek ev r l))
  (I:cA.tab P T=some ⟨.map R vt,s1,s2,z⟩) (h:J c n σ (M.set j (Mp ek ev r (AY k f l))) L (wpList P ops Q rest)):
  J c n σ M L (wpList P ops Q (⟨none,.mapUpdate T x y v,ty,pos,aft,none⟩::rest)):=fun a w s t=>by
 refine kC rfl ?_
 obtain⟨F,E⟩:=t.res K
 have N:(getObj r).run P w = .ok (.map (BP ek ev 0 l).toArray l.length) w:=by
  simp[getObj,Sem.run,E.2]
 have b:=C.find ev k l w
 have A:=Kk ev k 0 l
 have B:∃o:Obj,(execOp a.eval ⟨none,.mapUpdate T x y v,ty,pos,aft,none⟩).run P w = .ok .skip {w with heap:=w.heap.setIfInBounds r o}∧o = .map (BP ek ev 0 (AY k f l)).toArray (AY k f l).length:=by
  simp only[execOp,s.eval Y,s.eval Z,s.eval X,Instr.mapUpdate]
  cases m:QM ev k 0 l with
  |none=>
   rw[m]at A b
   have U:lI k l=none:=by cases h:lI k l<;>simp[h]at A ⊢
   refine⟨.map (BP ek ev 0 l++[(⟨ek k,ev f,l.length⟩:MapEntry)]).toArray (l.length+1),by simp[(cA.ok I).run_und w,N,C.chk,b,BR E.2],?_⟩
   rw[Fl k f l U,HR];simp
  | some q =>
   obtain⟨i,u⟩:=q
   rw[m]at b
   obtain⟨_,D,H,S⟩:=Pk ek ev k f 0 0 l i u m
   rw[Nat.sub_zero]at D H
   have O:(((BP ek ev 0 l).toArray[i]?).map (·.key)).getD (ek k)=ek k:=by
    rw[List.getElem?_toArray,D];rfl
   refine⟨.map ((BP ek ev 0 l).toArray.modify i fun e=>{e with key:=ek k,val:=ev f}) l.length,?_,?_⟩
   ·have G:(Instr.keyThatStays (ek k) (ek k)).run P w = .ok (ek k) w:=by simp[Instr.keyThatStays,C.same k]
    have p:(Option.map (fun x=>x.key) (BP ek ev 0 l)[i]?).getD (ek k)=ek k:=by rw[D];rfl
    simp[(cA.ok I).run_und w,N,C.chk,b,p,G,BR E.2]
   ·rw[H,S];simp
 obtain⟨o,W,V⟩:=B
 simp only[Oper.wp,W,Oper.upon]
 exact h _ _ s (t.setMap K o V)
end
end Go.Sx
end
section
set_option linter.unusedSectionVars false
namespace Go.Sx
open Go.RowKit Go.ChangeMaps
def It (b m len:Nat) (a:List Nat):aX where
 p w F:=F b∧w.heap[b]? = some (.mapIter (some m) len a.toArray len)
 mono:=fun⟨d,c⟩ h=>by
  obtain⟨e,f⟩:=h b d (Array.getElem?_eq_some_iff.1 c).1
  exact⟨e,by rw[f];exact c⟩
section
variable {κ ν:Type} [DecidableEq κ] {ek:κ->Value} {ev:ν->Value} {R:Type}
theorem Ku (ek:κ->Value) (ev:ν->Value):∀(k:Nat) (l:List (κ×ν)) (e:MapEntry),e∈BP ek ev k l->∃i a,l[i]? = some a∧e=⟨ek a.1,ev a.2,k+i⟩
 |_,[],e,h=>by simp[BP]at h
 | k, x :: xs, e, h => by
  rcases List.mem_cons.1 h with rfl|h
  ·exact⟨0,x,rfl,rfl⟩
  ·obtain⟨i,a,b,c⟩:=Ku ek ev (k+1) xs e h
   exact⟨i+1,a,b,by rw[c,show k+1+i=k+(i+1) by omega]⟩
theorem Kt (ek:κ->Value) (ev:ν->Value):∀(k:Nat) (l:List (κ×ν)) (i:Nat) (a:κ×ν),l[i]? = some a->(⟨ek a.1,ev a.2,k+i⟩:MapEntry)∈BP ek ev k l
 |_,[],i,a,h=>by simp at h
 |k,x::xs,0,a,h=>by simp at h;subst h;exact List.mem_cons_self
 |k,x::xs,i+1,a,h=>by
  have:=Kt ek ev (k+1) xs i a (by simpa using h)
  rw[show k+1+i=k+(i+1) by omega]at this
  exact List.mem_cons_of_mem _ this
theorem Mf (ek:κ->Value) (ev:ν->Value):∀(k:Nat) (l:List (κ×ν)),(BP ek ev k l).map (·.born)=List.range' k l.length
 |_,[]=>rfl
 |k,x::xs=>by simp[BP,Mf ek ev (k+1) xs,List.range'_succ]
def IC (step:κ×ν->Option R->Option R) (K:Option R) (l:List (κ×ν)):Option R:=l.foldr step K
def rem (l:List (κ×ν)) (seen:List Nat):List (κ×ν):=((List.range l.length).filter (fun i=> !seen.contains i)).filterMap (fun i=>l[i]?)
theorem Jq:∀l:List (κ×ν),(List.range l.length).filterMap (fun i=>l[i]?)=l
 | []=>rfl
 |x::xs=>by
  rw[List.length_cons,List.range_succ_eq_map,List.filterMap_cons]
  simp only[List.getElem?_cons_zero,List.filterMap_map]
  congr 1
  have:=Jq xs
  simpa [Function.comp_def]using this
theorem WG (l:List (κ×ν)):rem l []=l:=by
 unfold rem
 rw[List.filter_eq_self.2 (by simp),Jq]
theorem Um {l:List (κ×ν)} {seen:List Nat} {i:Nat} {kv:κ×ν} (hi:l[i]? = some kv) (hs:i∉seen):∃l1 l2,rem l seen=l1++kv::l2∧rem l (seen++[i])=l1++l2:=by
 have hlt:=bA hi
 have hmem:i∈(List.range l.length).filter (fun i=> !seen.contains i):=by simp[hlt,hs]
 obtain⟨A,B,hAB⟩:=List.append_of_mem hmem
 have hnd:((List.range l.length).filter (fun i=> !seen.contains i)).Nodup:=List.Pairwise.filter _ List.nodup_range
 rw[hAB]at hnd
 have hA:i∉A:=fun h=>by
  have:=(List.nodup_append.1 hnd).2.2 i h i List.mem_cons_self
  exact this rfl
 have hB:i∉B:=fun h=>by
  have:=(List.nodup_cons.1 (List.nodup_append.1 hnd).2.1).1
  exact this h
 refine⟨A.filterMap (fun i=>l[i]?),B.filterMap (fun i=>l[i]?),?_,?_⟩
 ·unfold rem
  rw[hAB,List.filterMap_append,List.filterMap_cons,hi]
 ·unfold rem
  have e:(List.range l.length).filter (fun j=> !(seen++[i]).contains j)=((List.range l.length).filter (fun j=> !seen.contains j)).filter (fun j=>decide (j≠i)):=by
   rw[List.filter_filter]
   apply List.filter_congr
   intro j _
   rw[Bool.eq_iff_iff]
   simp[and_comm]
  rw[e,hAB,List.filter_append,List.filter_cons]
  have fA:A.filter (fun j=>decide (j≠i))=A:=List.filter_eq_self.2 (fun j hj=>by simp;rintro rfl;exact hA hj)
  have fB:B.filter (fun j=>decide (j≠i))=B:=List.filter_eq_self.2 (fun j hj=>by simp;rintro rfl;exact hB hj)
  rw[fA,fB,List.filterMap_append.symm]
  simp
theorem Jp {step:κ×ν->Option R->Option R} (hc:∀a b x,step a (step b x)=step b (step a x)) (K:Option R) (c:κ×ν) (d:List (κ×ν)):∀e:List (κ×ν),IC step K (e++c::d)=step c (IC step K (e++d))
 | []=>rfl
 |x::xs=>by
  have:=Jp hc K c d xs
  unfold IC at this ⊢
  rw[List.cons_append,List.cons_append,List.foldr_cons,List.foldr_cons,this,hc]
end
section
variable {P:Program} {rd:Option Nat} {c:tP} {n:Sz} {σ σ':Fr} {M L M' L':List aX} {Q:Exit->Act->World->Prop} {ops:Array Oper} {rest:List Oper}
variable {d:Option Tmp} {ty:TypeId} {pos:String} {aft:Array Edge} {g:Option (Nat×Bool)}
variable {κ ν:Type} [DecidableEq κ] {ek:κ->Value} {ev:ν->Value} {R:Type}
theorem aG.range [cA P] (j:Nat) {T f h:TypeId} {q r:Nat} {z:Value} {x:Operand} {m:Nat} {l:List (κ×ν)} (p:Go.Sx.ev σ x=some (.map (some m))) (o:M[j]? = some (Mp ek ev m l)) (k:cA.tab P T=some ⟨.map f h,q,r,z⟩):
  aG P c n σ M L ⟨d,.range T x,ty,pos,aft,g⟩ (fun b:Nat=> .pointer (some ⟨b,0,none⟩)) (fun b=>It b m l.length []::M) (fun _=>L):=fun a w s t=>by
 obtain⟨F,i⟩:=t.res o
 have e:(execOp a.eval ⟨d,.range T x,ty,pos,aft,g⟩).run P w = .ok (.value (.pointer (some ⟨w.heap.size,0,none⟩))) (w.alloc (.mapIter (some m) l.length #[] l.length)):=by
  simp[execOp,s.eval p,run_range_map w T f h m _ _ (cA.ok k).und i.2]
 simp only[Oper.wp,e,Oper.upon]
 exact⟨w.heap.size,rfl,t.push _ ⟨rfl,heap_alloc_new w _⟩⟩
def Ek (ek:κ->Value) (ev:ν->Value) (l:List (κ×ν)):Option Nat->Value
 |none=> .tuple #[.bool false]
 |some i=>match l[i]? with
  |some a=> .tuple #[.bool true,ek a.1,ev a.2]
  |none=>undef
def YW (len:Nat) (a:List Nat):Option Nat->Prop
 |none=>∀i,i<len->i∈a
 |some i=>i<len∧i∉a
def Pz (M:List aX) (e b m len:Nat) (a:List Nat):Option Nat->List aX
 |none=>M
 |some i=>M.set e (It b m len (a++[i]))
theorem St.pureL {w:World} {p:Prop} (hp:p) (t:St c M L w):St c M (XA p::L) w:=by
 obtain⟨ho,F,hF,hL⟩:=t
 refine⟨ho,F,hF,fun f hf=> ?_⟩
 rcases List.mem_cons.1 hf with rfl|hf
 ·exact hp
 ·exact hL f hf
theorem aG.next (jm ji:Nat) {x:Operand} {b m:Nat} {l:List (κ×ν)} {seen:List Nat} (hx:Go.Sx.ev σ x=some (.pointer (some ⟨b,0,none⟩))) (hf:M[jm]? = some (Mp ek ev m l)) (hi:M[ji]? = some (It b m l.length seen)):
  aG P c n σ M L ⟨d,.next x false,ty,pos,aft,g⟩ (Ek ek ev l) (Pz M ji b m l.length seen) (fun o=>XA (YW l.length seen o)::L):=fun a w s t=>by
 obtain⟨F,hF⟩:=t.res hf
 obtain⟨G,hG⟩:=t.res hi
 have hold:∀e∈(BP ek ev 0 l).toArray.toList,e.born<l.length:=fun e he=>by
  obtain⟨i,kv,h1,h2⟩:=Ku ek ev 0 l e (by simpa using he)
  rw[h2];have:=bA h1;simp;omega
 rcases run_next_at (P:=P) w ty b m l.length l.length seen.toArray (BP ek ev 0 l).toArray l.length hG.2 hF.2 hold (Nat.le_refl _)with⟨h0,hr⟩|⟨e,he,w1,hw1,hr⟩
 ·have hrun:(execOp a.eval ⟨d,.next x false,ty,pos,aft,g⟩).run P w = .ok (.value (.tuple #[.bool false])) w:=by
   simp[execOp,s.eval hx,hr]
  simp only[Oper.wp,hrun,Oper.upon]
  refine⟨none,rfl,t.pureL fun i hi'=> ?_⟩
  obtain⟨kv,hkv⟩:∃kv,l[i]? = some kv:=⟨_,List.getElem?_eq_getElem hi'⟩
  have:=all_seen _ _ h0 _ (by simpa using Kt ek ev 0 l i kv hkv)
  simpa using this
 ·have hml:=_root_.Go.mem_left he
  obtain⟨i,kv,h1,h2⟩:=Ku ek ev 0 l e (by simpa using hml.1)
  subst h2
  rw[Nat.zero_add]at hr hml
  have hrun:(execOp a.eval ⟨d,.next x false,ty,pos,aft,g⟩).run P w = .ok (.value (.tuple #[.bool true,ek kv.1,ev kv.2])) (setBlock w1 b (.mapIter (some m) l.length (seen.toArray.push i) l.length)):=by
   simp[execOp,s.eval hx,hr]
  simp only[Oper.wp,hrun,Oper.upon]
  have t1:St c M L w1:=by
   rcases hw1 with rfl|rfl
   ·exact t
   ·exact t.ext ((Below.refl _ _).drew)
  refine⟨some i,by simp[Ek,h1],St.pureL ⟨bA h1,by simpa using hml.2⟩ ?_⟩
  refine t1.upd hi rfl rfl rfl (by simp[setBlock]) fun F hF _=>⟨fun k _ hk=> ?_,F,⟨hF.1,?_⟩,fun _ h=> .inl h⟩
  ·simp only[setBlock]
   rw[Array.getElem?_setIfInBounds_ne (fun e=>hk (by subst e;exact hF.1))]
  ·simp only[setBlock]
   rw[Array.getElem?_setIfInBounds_self_of_lt (Array.getElem?_eq_some_iff.1 hF.2).1]
   simp
theorem aG.entry (A z:Nat) {x:Operand} {b m i:Nat} {l:List (κ×ν)} {f:List Nat} {e:κ×ν} (j:l[i]? = some e) (y:Go.Sx.ev σ x=some (.pointer (some ⟨b,0,none⟩))) (q:M[A]? = some (Mp ek ev m l)) (r:M[z]? = some (It b m l.length (f++[i]))):
  aG P c n σ M L ⟨d,.entry x,ty,pos,aft,g⟩ (fun _:Unit=> .tuple #[ek e.1,ev e.2]) (fun _=>M) (fun _=>L):=fun a w s t=>by
 obtain⟨F,o⟩:=t.res q
 obtain⟨G,p⟩:=t.res r
 have k:=Kt ek ev 0 l i e j
 rw[Nat.zero_add]at k
 have u:((BP ek ev 0 l).toArray.toList.map (·.born)).Nodup:=by
  simp only[Mf];exact List.nodup_range'
 have v:=run_entry_at (P:=P) w b m l.length f.toArray (BP ek ev 0 l).toArray l.length ⟨ek e.1,ev e.2,i⟩ (by rw[p.2];simp) o.2 (by simpa using k) u
 have h:(execOp a.eval ⟨d,.entry x,ty,pos,aft,g⟩).run P w = .ok (.value (.tuple #[ek e.1,ev e.2])) w:=by
  simp[execOp,s.eval y,v]
 simp only[Oper.wp,h,Oper.upon]
 exact⟨(),by first|rfl|trivial,t⟩
theorem Ve {G:Act->World->Prop} (σ':Fr) (M' L':List aX) (f:wW σ σ') (e:aS M M') (b:aA [] L L') (h:J c n σ' M' L' G):J c n σ M L G:=fun a w s t=>h a w (s.weak f) (t.weakE e b)
theorem Np {e:TypeId} {d:TypeDesc} (p:P.underlying e=some d) (m:∀b k w,(Instr.checkKey b 10000 e (ek k)).run P w = .ok () w) (o:∀a b,Instr.sameNow d (ek a) (ek b)=none)
  (q:∀a b w,(Op.equal e (ek a) (ek b)).run P w = .ok (decide (a=b)) w) (f:∀k,Instr.sameBits 10000 (ek k) (ek k)=true):GW P e ek:=by
 refine⟨m,fun {ν'} ev' k l w=> ?_,f⟩
 have j:∀(l:List (κ×ν')) (i:Nat),(Instr.findAsking e (ek k) (BP ek ev' i l) i).run P w = .ok (QM ev' k i l) w:=by
  intro l
  induction l with
  |nil=>intro i;simp[BP,QM,Instr.findAsking]
  |cons x xs s=>
   intro i
   simp only[BP,QM,Instr.findAsking]
   simp[q]
   by_cases h:k=x.1
   ·simp[h]
   ·simp[h,s]
 unfold Instr.findKey
 cases l with
 |nil=>simp[BP,QM,Instr.findNow,run_underlying p w]
 |cons x xs=>
  have r:Instr.findNow d (ek k) (BP ek ev' 0 (x::xs)) 0=none:=by simp[BP,Instr.findNow,o]
  simp[run_underlying p w,r,j]
def RU {R:Type} (c:tP) (n:Sz) (σ:Fr) (M L:List aX) (x:Option R) (r:R) (a:Act) (w:World):Prop:=x=some r∧Dl n σ a∧St c M L w
theorem Nn {R:Type} {x:Option R} {r:R} (h:x=some r) (e:wW σ' σ) (b:aS M' M) (a:aA [] L' L):J c n σ' M' L' (RU c n σ M L x r):=fun _ _ s t=>⟨h,s.weak e,t.weakE b a⟩
theorem Qh (step:κ×ν->Option R->Option R) {K:Option R} {r:R} (jm ji:Nat) {b m:Nat} {l:List (κ×ν)} (hc:∀a b x,step a (step b x)=step b (step a x)) (h:IC step K l=some r)
  (hf:M[jm]? = some (Mp ek ev m l)) (hi:M[ji]? = some (It b m l.length [])) (hne:Nat.beq ji jm=false) {t0 t1 t2:Tmp} (hx:lk σ t0=some (.pointer (some ⟨b,0,none⟩))) (hd1:Nat.blt t1 n.sz=true) (hd2:Nat.blt t2 n.sz=true)
  {id ex:Nat} {y1 y2:TypeId} {q1 q2:String} {f1 f2:Array Edge} {body:Code}
  (round:∀(kv:κ×ν) (i:Nat) (seen:List Nat) (x:Option R),l[i]? = some kv->step kv x=some r->
   J c n ((t2,.bool true)::(t1,.tuple #[.bool true,ek kv.1,ev kv.2])::σ) (M.set ji (It b m l.length (seen++[i]))) L (body.wpr rd P (Exit.then (RU c n σ (M.set ji (It b m l.length (seen++[i]))) L x r) Q)))
  (fin:∀seen,K=some r->J c n ((t2,.bool false)::(t1,.tuple #[.bool false])::σ) (M.set ji (It b m l.length seen)) L (Q (.exit ex))):
  J c n σ M L ((Code.loop (Code.seq (Code.region id [⟨some t1,.next (.tmp t0) false,y1,q1,f1,none⟩,⟨some t2,.extract (.tmp t1) 0,y2,q2,f2,none⟩].toArray false) (Code.seq (Code.cond (.tmp t2) .skip (.exit ex)) body))).wpr rd P Q):=by
 have hjlt:=bA hi
 have hjm:jm≠ji:=fun e=>by subst e;simp at hne
 have hset:M.set ji (It b m l.length [])=M:=by
  apply List.ext_getElem?
  intro q
  by_cases eq:q=ji
  ·subst eq;rw[List.getElem?_set_self hjlt,hi]
  ·rw[List.getElem?_set_ne (Ne.symm eq)]
 refine RI (X:=List Nat) (fun seen=>seen.Nodup∧(∀i∈seen,i<l.length)∧IC step K (rem l seen)=some r) (fun _=>σ) (fun seen=>M.set ji (It b m l.length seen)) (fun _=>L) (fun seen=>l.length - seen.length) [] ⟨List.nodup_nil,by simp,by rw[WG];exact h⟩ (wW.refl _) (by rw[hset];exact aS.refl _) (fun _ h=>h) ?_
 rintro seen ⟨hnd,hlt,hrun⟩
 have hf':(M.set ji (It b m l.length seen))[jm]? = some (Mp ek ev m l):=by rw[List.getElem?_set_ne (Ne.symm hjm)];exact hf
 have hi':(M.set ji (It b m l.length seen))[ji]? = some (It b m l.length seen):=List.getElem?_set_self hjlt
 refine aH (aM (aE (aG.next jm ji (x:= .tmp t0) hx hf' hi') hd1 fun o=> ?_))
 refine Xx List.mem_cons_self fun ho=> ?_
 refine Xy (M':=Pz (M.set ji (It b m l.length seen)) ji b m l.length seen o) (L':=L) ?_ (wW.refl _) (aS.refl _) (fun f hf=>List.mem_cons_of_mem _ hf)
 cases o with
 | none =>
  refine aB (e_ (vs:=[.bool false]) (by simp[Ek,lk,Go.Sx.ev]) rfl) hd2 (eI (zC (aH (AC (by simp[lk,Go.Sx.ev]) (qP (eL (eL ?_)))))))
  refine fin seen ?_
  have:rem l seen=[]:=by
   unfold rem
   rw[List.filter_eq_nil_iff.2 (fun i hi=>by simpa using ho i (by simpa using hi))]
   rfl
  rw[this]at hrun
  exact hrun
 | some i =>
  obtain⟨h1,h2⟩:=ho
  obtain⟨kv,hkv⟩:∃kv,l[i]? = some kv:=⟨_,List.getElem?_eq_getElem h1⟩
  have hval:Ek ek ev l (some i) = .tuple #[.bool true,ek kv.1,ev kv.2]:=by simp[Ek,hkv]
  obtain⟨l1,l2,e1,e2⟩:=Um hkv h2
  have hstep:step kv (IC step K (rem l (seen++[i])))=some r:=by
   rw[e2,<-Jp hc K kv l2 l1,<-e1];exact hrun
  have hMs:Pz (M.set ji (It b m l.length seen)) ji b m l.length seen (some i)=M.set ji (It b m l.length (seen++[i])):=by simp[Pz]
  rw[hval,hMs]
  refine aB (e_ (vs:=[.bool true,ek kv.1,ev kv.2]) (by simp[lk,Go.Sx.ev]) rfl) hd2 (eI (zC (aH (JM (by simp[lk,Go.Sx.ev]) (eJ (zC ?_))))))
  refine RJ (round kv i seen _ hkv hstep) fun a w hw=>EF (fun e a' w' q=> ?_) hw
  cases e with
  | normal =>
   obtain⟨hx',hs',ht'⟩:=q
   refine⟨seen++[i],⟨?_,?_,hx'⟩,?_,hs',ht'⟩
   ·rw[List.nodup_append];exact⟨hnd,by simp,fun a ha b hb=>by simp at hb;subst hb;rintro rfl;exact h2 ha⟩
   ·intro j hj
    rcases List.mem_append.1 hj with hj|hj
    ·exact hlt j hj
    ·simp at hj;subst hj;exact h1
   ·have:seen.length<l.length:=by
     have hsub:(seen++[i]).length<=(List.range l.length).length:=by
      apply List.Nodup.length_le_of_subset
      ·rw[List.nodup_append];exact⟨hnd,by simp,fun a ha b hb=>by simp at hb;subst hb;rintro rfl;exact h2 ha⟩
      ·intro j hj
       rcases List.mem_append.1 hj with hj|hj
       ·simpa using hlt j hj
       ·simp at hj;subst hj;simpa using h1
     simp at hsub;omega
    simp;omega
  |exit id=>exact q
  |goto l=>exact q
  |ret=>exact q
  |panic ch=>exact q
  |outgrown=>exact q
end
end Go.Sx
end
section
namespace Go.Sx
open Go.RowKit
section
section
variable {P:Program} {rd:Option Nat} {c:tP} {n:Sz} {σ σ':Fr} {M L M' L':List aX} {Q:Exit->Act->World->Prop} {ops:Array Oper} {rest:List Oper} {K:Act->World->Prop} {G:Act->World->Prop}
variable {d:Option Tmp} {D:Nat} {ty:TypeId} {pos:String} {aft:Array Edge} {g:Option (Nat×Bool)}
variable {α β:Type} {e:c_ α} {r:eH α}

def BL:Value->Bool
 | .slice none _ _=>true
 |_=>false
theorem Qi {v:Value} {xs:List α} (l:aC M L (Sl r v xs)) (i:BL v=true->xs=[]->J c n σ M L G) (j:BL v=false->J c n σ M L G):J c n σ M L G:=fun a w s t=>by
 cases f:BL v with
 |false=>exact j f a w s t
 |true=>
  refine i f ?_ a w s t
  obtain⟨S,p,cap,m,_,h⟩:=l.st t
  subst m
  rcases h with h|⟨b,o,k,_⟩
  ·exact h
  ·subst k;cases f
theorem Ri {T E:TypeId} {dT:Ty} {w:World} {a:Option Addr} {l k:Nat} (hT:qL P T dT) (hd:dT.desc = .slice E):(binOp .eql T (.slice a l k) (.slice none 0 0)).run P w = .ok (.bool (BL (.slice a l k))) w:=by
 have hu:=hT.run_und w
 have key:∀m:Nat,(Op.equalIn (m+1) T (.slice a l k) (.slice none 0 0)).run P w = .ok (BL (.slice a l k)) w:=by
  intro m
  unfold Op.equalIn
  rw[hd]at hu
  cases a<;>simp[hu,BL]
 have h:(Op.equal T (.slice a l k) (.slice none 0 0)).run P w = .ok (BL (.slice a l k)) w:=key 9999
 simp[binOp,h]
theorem OD [cA P] {T E:TypeId} {q u:Nat} {z:Value} {x:Operand} {v:Value} {xs:List α} {b:Bool} {y:TypeId} (p:ev σ x=some v) (m:aC M L (Sl r v xs)) (j:BL v=b) (i:cA.tab P T=some ⟨.slice E,q,u,z⟩):
  Y P c n σ M L ⟨d,.binOp .eql T x (.const (.slice none 0 0)) y,ty,pos,aft,g⟩ (.bool b):=fun a w s t=>by
 obtain⟨S,h,cap,o,_,_⟩:=m.st t
 subst o
 have f:=Ri (w:=w) (a:=h) (l:=xs.length) (k:=cap) (cA.ok i) rfl
 have hc:a.eval (.const (.slice none 0 0)) = .slice none 0 0:=rfl
 rw[j]at f
 simp[execOp,s.eval p,hc,eqGuard,f]

def AG (P:Program) (f:FuncId) (args:Array Value) (Min L:List aX) {A:Type} (a:A->Value) (b:A->List aX->List aX):Prop:=
 ∀c:tP,St c Min L c.w0->Calls P f args c.w0 fun e w'=>∃x:A,e = .returned (a x)∧St c (b x []) [] w'
theorem AG.of {A:Type} {b:A->Value} {p:A->List aX->List aX} {f:FuncId} {fn:Func} {a:Code} {vs:List Value} {m:Nat} {Min:List aX}
  (s:P.funcs[f]? = some fn) (q:fn.body=some a) (w:fn.ntmps=m) (u:Nat.ble vs.length m=true)
  (h:∀c:tP,J c ⟨m,[]⟩ (vY 0 vs) Min L (a.wpr none P (fZ P fn (Lk c b p (fun _ l=>l))))):AG P f vs.toArray Min L b p:=fun c t=>by
 have k:vs.length<=m:=by simpa using u
 refine rD s q (h c _ _ ⟨rfl,by simp[w,k],?_⟩ t)
 intro t v x
 obtain⟨_,i⟩:=BI vs 0 t v x
 rw[Nat.sub_zero]at i
 have o:t<vs.length:=by
  rcases Nat.lt_or_ge t vs.length with j|j
  ·exact j
  ·rw[List.getElem?_eq_none j]at i;cases i
 rw[Array.getElem?_append_left (by simpa using o)]
 simpa using i
theorem Se {w w':World} {Min Mr u:List aX} {F:Nat->Nat->Prop} {U:Nat->Prop} (x:Ae c.O c.w0 w) (l:W_ c w (Min++Mr) F) (T:∀f∈L,f.p w (CJ c F))
  (t:St ⟨w,U,fun k=>∃i,i<Min.length∧F i k⟩ u [] w'):St c (u++Mr) L w':=by
 obtain⟨o,F',s,_⟩:=t
 have B:=o.size
 have v:∀k,k<w.heap.size->(∀i,i<Min.length->¬F i k)->w'.heap[k]? = w.heap[k]? := fun k a W=>o.block k a (fun⟨i,A,l⟩=>W i A l)
 have b:∀i k,F' i k->w.heap.size<=k∨∃j,j<Min.length∧F j k:=fun i k a=>(s.rng i k a).1
 refine⟨⟨o.os.trans x.os,o.tape.trans x.tape,o.output.trans x.output,Nat.le_trans x.size B,fun k a R=> ?_⟩,
  fun i k=>(i<u.length∧F' i k)∨(u.length<=i∧F (i - u.length+Min.length) k),⟨?_,?_,?_⟩,fun f V=> ?_⟩
 ·refine(v k (Nat.lt_of_lt_of_le a x.size) (fun i _ E=> ?_)).trans (x.block k a R)
  rcases(l.rng i k E).1 with h|h
  ·omega
  ·exact R h
 ·intro i m C
  by_cases A:i<u.length
  ·rw[List.getElem?_append_left A]at C
   exact aX.same (s.res i m C) (fun k a=> .inl ⟨A,a⟩) (fun _ _ _=>rfl)
  ·rw[List.getElem?_append_right (by omega)]at C
   have J:(Min++Mr)[i - u.length+Min.length]? = some m:=by
    rw[List.getElem?_append_right (by omega),Nat.add_sub_cancel];exact C
   exact aX.same (l.res _ m J) (fun k a=> .inr ⟨by omega,a⟩) (fun k a I=>v k I (fun j S H=>by have:=l.dis _ _ k H a;omega))
 ·rintro i k (⟨_,a⟩|⟨_,a⟩)
  ·refine⟨?_,(s.rng i k a).2⟩
   rcases b i k a with h|⟨j,_,h⟩
   ·exact .inl (Nat.le_trans x.size h)
   ·exact(l.rng j k h).1
  ·exact⟨(l.rng _ k a).1,Nat.lt_of_lt_of_le (l.rng _ k a).2 B⟩
 ·rintro i j k (⟨A,y⟩|⟨A,y⟩) (⟨S,z⟩|⟨S,z⟩)
  ·exact s.dis i j k y z
  ·rcases b i k y with h|⟨q,X,h⟩
   ·have:=(l.rng _ k z).2;omega
   ·have:=l.dis _ _ k h z;omega
  ·rcases b j k z with h|⟨q,X,h⟩
   ·have:=(l.rng _ k y).2;omega
   ·have:=l.dis _ _ k h y;omega
  ·have:=l.dis _ _ k y z;omega
 ·refine f.mono (T f V) fun k a I=>⟨⟨a.1,?_⟩,v k I (fun i _=>a.2 i)⟩
  rintro i (⟨_,h⟩|⟨_,h⟩)
  ·rcases b i k h with N|⟨q,_,N⟩
   ·omega
   ·exact a.2 q N
  ·exact a.2 _ h
theorem Qn {w:World} {Min Mr s:List aX} {F:Nat->Nat->Prop} (l:W_ c w (Min++Mr) F) (v:∀f∈L,f.p w (CJ c F)) (z:aA Mr L s):
  St ⟨w,fun k=>∀i,i<Min.length->¬F i k,fun k=>∃i,i<Min.length∧F i k⟩ Min s w:=by
 refine⟨Ae.refl _,fun i k=>i<Min.length∧F i k,⟨fun i m q=> ?_,fun i k a=>⟨.inr ⟨i,a⟩,(l.rng i k a.2).2⟩,fun i j k t u=>l.dis i j k t.2 u.2⟩,fun f x=> ?_⟩
 ·have b:i<Min.length:=by
   rcases Nat.lt_or_ge i Min.length with o|o
   ·exact o
   ·rw[List.getElem?_eq_none o]at q;cases q
  exact aX.same (l.res i m (by rw[List.getElem?_append_left b];exact q)) (fun k a=>⟨b,a⟩) (fun _ _ _=>rfl)
 ·refine z f x w (CJ c F) (fun j k=>F (j+Min.length) k) _ v (fun j m y=> ?_) (fun k a=> ?_) (fun j k a=> ?_)
  ·exact l.res _ m (by rw[List.getElem?_append_right (by omega),Nat.add_sub_cancel];exact y)
  ·exact⟨.inl fun i _=>a.2 i,fun i b=>a.2 i b.2⟩
  ·exact⟨.inl fun i b h=>by have:=l.dis _ _ k h a;omega,fun i b=>by have:=l.dis _ _ k b.2 a;omega⟩
theorem yA {A:Type} {k:A->Value} {m:A->List aX->List aX} {f:FuncId} {xs:List Operand} {vs:List Value} {b:Array TypeId} {p Min Mr:List aX} (y:aO P f)
  (B:AG P f vs.toArray Min p k m) (E:xs.map (ev σ)=vs.map some) (v:aS M (Min++Mr)) (u:aA Mr L p) (o:∀x l,m x l=m x []++l):
  aG P c n σ M L ⟨d,.call ⟨.value (.func f),xs.toArray,b⟩,ty,pos,aft,g⟩ k (fun x=>m x Mr) (fun _=>L):=fun a w s t=>by
 have j:(execOp a.eval ⟨d,.call ⟨.value (.func f),xs.toArray,b⟩,ty,pos,aft,g⟩).run P w = .ok (.enter f vs.toArray) w:=by
  have e:=YF s E
  simp[execOp,resolve,Act.eval,Deferred.ofValue,invoke,y _ w,e]
 simp only[Oper.wp,j,Oper.upon]
 obtain⟨z,F,q,i⟩:=t.weak (L':=L) v (fun _ h=>h)
 refine(B _ (Qn q i u)).mono ?_
 rintro e w' ⟨x,rfl,C⟩
 refine⟨x,rfl,?_⟩
 rw[o]
 exact Se z q i C

def Vg {A B:Type} (c:tP) (C:A->Prop) (a:A->B->Value) (f b:A->B->List aX) (e:Ending) (w:World):Prop:=∃x y,C x∧e = .returned (a x y)∧St c (f x y) (b x y) w
theorem HE {fn:Func} {vs:List Value} {m:Nat} (j:fn.ntmps=m) (i:Nat.ble vs.length m=true):Dl ⟨m,[]⟩ (vY 0 vs) {tmps:=vs.toArray++Array.replicate (fn.ntmps - vs.toArray.size) undef,defers:=[]}:=by
 have f:vs.length<=m:=by simpa using i
 refine⟨rfl,by simp[j,f],?_⟩
 intro t v k
 obtain⟨_,a⟩:=BI vs 0 t v k
 rw[Nat.sub_zero]at a
 have h:t<vs.length:=by
  rcases Nat.lt_or_ge t vs.length with b|b
  ·exact b
  ·rw[List.getElem?_eq_none b]at a;cases a
 rw[Array.getElem?_append_left (by simpa using h)]
 simpa using a
structure uC (P:Program) (c:tP) (n:Sz) (σ:Fr) (M L:List aX) (o:Oper) (f:FuncId) (vs:List Value):Prop where
 run:∀a w,Dl n σ a->St c M L w->(execOp a.eval o).run P w = .ok (.enter f vs.toArray) w
theorem uC.fn {f:FuncId} {xs:List Operand} {vs:List Value} {b:Array TypeId} (h:aO P f) (i:xs.map (ev σ)=vs.map some):uC P c n σ M L ⟨d,.call ⟨.value (.func f),xs.toArray,b⟩,ty,pos,aft,g⟩ f vs:=⟨fun a w s _=>by
 have e:=YF s i
 simp[execOp,resolve,Act.eval,Deferred.ofValue,invoke,h _ w,e]⟩
theorem Qf {f:FuncId} {t:Tmp} {xs:List Operand} {us cs vs:List Value} {b:Array TypeId} (i:aO P f) (j:lk σ t=some (.func (.func f) #[] cs.toArray)) (l:xs.map (ev σ)=us.map some) (k:us++cs=vs):uC P c n σ M L ⟨d,.call ⟨.value (.tmp t),xs.toArray,b⟩,ty,pos,aft,g⟩ f vs:=⟨fun a w s _=>by
 have e:=YF s l
 have h:a.eval (.tmp t) = .func (.func f) #[] cs.toArray:=s.eval (x:= .tmp t) j
 subst k
 simp[execOp,resolve,h,Deferred.ofValue,invoke,i _ w,e]⟩

def FE (P:Program) (c:tP) (n:Sz) (σ:Fr) (M L:List aX) (fn:Func) (v:Value):Prop:=∀a w,Dl n σ a->St c M L w->(results fn a.tmps).run P w = .ok v w
variable {fn:Func}
theorem FE.r0 (b:fn.results = #[]):FE P c n σ M L fn (.tuple #[]):=fun a w _ _=>by simp[results,b]
theorem FE.r1 {f:ResultVar} {h:Value} (b:fn.results = #[f]) (i:RV P c n σ M L f h):FE P c n σ M L fn h:=fun a w s t=>by
 have:=i a w s t
 simp only[yN,b]
 simp[this]
theorem FE.r2 {i j:ResultVar} {k l:Value} (b:fn.results = #[i,j]) (f:RV P c n σ M L i k) (h:RV P c n σ M L j l):FE P c n σ M L fn (.tuple #[k,l]):=fun a w s t=>by
 have f:=f a w s t
 have h:=h a w s t
 simp only[yN,b]
 simp[f,h]
theorem vL {A B:Type} {m:Sz} {v:Value} {f:Exit} {C:A->Prop} {b:A->B->Value} {k j:A->B->List aX} (x:A) (y:B) (l:C x) (i:f = .ret∨f = .normal) (q:FE P c m σ' M L fn v) (u:v=b x y) (p:aS M (k x y)) (o:aA [] L (j x y)) (h:m.ds=[]:=by rfl):
  J c m σ' M L (fZ P fn (Vg c C b k j) f):=fun a w s t=>by
 exact body_end i (s.defers.trans h) (q a w s t) ⟨x,y,l,by rw[u],t.weakE p o⟩
end
end
section
section
variable {P:Program} {rd:Option Nat} {c:tP} {n:Sz} {σ σ':Fr} {M L M' L':List aX} {Q:Exit->Act->World->Prop} {ops:Array Oper} {rest:List Oper} {K:Act->World->Prop} {G:Act->World->Prop}
variable {d:Option Tmp} {D:Nat} {ty:TypeId} {pos:String} {aft:Array Edge} {g:Option (Nat×Bool)}
variable {α β:Type} {e:c_ α} {r:eH α}
def Ea (v:Value) (m:Nat):Prop:=match v with
 | .slice _ _ cap=>m<=cap
 |_=>False
theorem Know.cap (q:Nat) {v:Value} {xs:List α} (f:M[q]? = some (Ar e v xs)):∀c w,St c M L w->Ea v xs.length:=fun c w t=>by
 obtain⟨F,_,_,h⟩:=t.res f
 rcases h with⟨rfl,rfl⟩|⟨b,i,cap,T,a,rfl,_,_,h,_⟩
 ·exact Nat.le_refl _
 ·exact h
theorem Ea.slq {v:Value} {m k q:Nat} (h:Ea v m):Ea (slq v 0 k q) m:=by
 cases v<;>simp_all [Ea,Go.Sx.slq]
theorem Ia {b a cap l k q:Nat}:slq (.slice (some ⟨b,a,none⟩) l cap) 0 k q = .slice (some ⟨b,a,none⟩) k cap:=by
 simp[slq,dK]
theorem Sm [cA P] {T E:TypeId} {N O q R:Nat} {z U:Value} {u:TypeDesc} {x o l p:Operand} {v:Value} {i k m:Int} {xs:List α} (J:ev σ x=some v) (f:ev σ o=some (.int .i64 i)) (b:ev σ l=some (.int .i64 k)) (j:ev σ p=some (.int .i64 m)) (H:aC M L (Sl r v xs))
  (F:cA.tab P T=some ⟨.slice E,N,O,z⟩) (C:cA.tab P E=some ⟨u,q,R,U⟩) (h:0<=i∧i<=k∧k<=m∧m<=xs.length):Y P c n σ M L ⟨d,.slice T x (some o) (some l) (some p),ty,pos,aft,g⟩
   (match v with|.slice a _ _=> .slice (if m.toNat=i.toNat then a else a.map (·.add (i.toNat*q))) (k.toNat - i.toNat) (m.toNat - i.toNat)|v=>v):=fun a w s t=>by
 obtain⟨S,V,cap,I,W,_⟩:=H.st t
 subst I
 have y:0<=m∧m<=(cap:Int):=by omega
 have A:0<=k∧k<=((m.toNat:Nat):Int):=by omega
 have B:0<=i∧i<=((k.toNat:Nat):Int):=by omega
 simp[execOp,s.eval J,s.eval f,s.eval b,s.eval j,Instr.sliceAt,Instr.slice,(cA.ok F).run_und w,Instr.sliceBounds,Instr.sliceBound,asIntOf,(cA.ok C).run_size w,y,A,B]
 rw[if_pos (by omega),if_pos (by omega)]
theorem Iz [cA P] (q:Nat) {r:eH α} (o:e.Fits r) {x y:Operand} {v:Value} {xs:List α} {i j:Int} {T E:TypeId} {s1 s2 C s4:Nat} {z z':Value} {dE:TypeDesc} (hx:ev σ x=some (slq v (0:Int).toNat i.toNat C)) (hy:ev σ y=some (slq v j.toNat (xs.length:Int).toNat C)) (hf:M[q]? = some (Ar e v xs))
  (Z:cA.tab P T=some ⟨.slice E,s1,s2,z⟩) (hE:cA.tab P E=some ⟨dE,C,s4,z'⟩) (h3:e.sz=C) (h:0<=i∧i<j∧j<=xs.length):
  aG P c n σ M L ⟨d,.call ⟨.builtin .append,#[x,y],#[T,T]⟩,ty,pos,aft,g⟩ (fun _:Unit=>slq v 0 (i+((xs.length:Int) - j)).toNat C) (fun _=>M.set q (Ar e (slq v 0 (i+((xs.length:Int) - j)).toNat C) (xs.take i.toNat++xs.drop j.toNat))) (fun _=>L):=fun a w s t=>by
 subst h3
 have t0:=t
 obtain⟨ho,FF,Y,R⟩:=t0
 have X:=Y.res q _ hf
 have W:=Bv.sl o X
 have hp:=Gs.part W (l:=j.toNat) (h:=xs.length) (by omega) (Nat.le_refl _)
 rw[o.1]at hp
 obtain⟨hs,F⟩:=G_ o hp Z
 obtain⟨h0,O,hh⟩:=X
 rcases hh with⟨_,rfl⟩|⟨b,m,cap,T',f,rfl,H,I,hk,hc,ht⟩
 ·simp at h;omega
 have N:((xs.take xs.length).drop j.toNat)=xs.drop j.toNat:=by rw[List.take_length]
 rw[N]at hs F
 have p:(xs.drop j.toNat).length=xs.length - j.toNat:=by simp
 have hn:(i+((xs.length:Int) - j)).toNat=i.toNat+(xs.length - j.toNat):=by omega
 rw[show(0:Int).toNat=0 from rfl,Ia]at hx
 rw[show(xs.length:Int).toNat=xs.length by omega]at hy
 have B:i.toNat+(xs.drop j.toNat).length<=cap:=by omega
 have hr:=HZ (P:=P) (ty:=ty) (cA.ok Z) rfl (cA.ok hE) I hs B hc
 simp only[Oper.wp,xZ s hx hy w,hr,Result.andThen_ok,Oper.upon]
 have aa:(i.toNat+(xs.length - j.toNat))*e.sz<=cap*e.sz:=Nat.mul_le_mul_right _ (by omega)
 have J:(cellsOf e (xs.drop j.toNat)).length=(xs.length - j.toNat)*e.sz:=by rw[dG,p]
 have A:(i.toNat+(xs.length - j.toNat))*e.sz=i.toNat*e.sz+(xs.length - j.toNat)*e.sz:=Nat.add_mul _ _ _
 have V:m+i.toNat*e.sz+(cellsOf e (xs.drop j.toNat)).length<=f.toList.length:=by
  rw[J];simp;omega
 refine⟨(),?_,?_⟩
 ·rw[Ia,hn,p]
 ·rw[Ia,hn]
  refine Ck ho Y R hf rfl rfl rfl (by simp) (fun k _ S=>setRow_other w b k _ (fun e=>S (by subst e;exact H))) (F':=FF q) ?_ (fun k hk=> .inl hk)
  refine⟨by simp;omega,?_,.inr ⟨b,m,cap,T',_,by simp;omega,H,setRow_heap w b _ _ T' _ I,by simp;omega,?_,?_⟩⟩
  ·rw[lM,List.all_append,F,Bool.and_true]
   refine List.all_eq_true.2 fun u hu=>List.all_eq_true.1 O u ?_
   rw[<-List.take_append_drop i.toNat xs,lM]
   exact List.mem_append_left _ hu
  ·simp only[List.size_toArray,List.length_append,List.length_take,List.length_drop]
   have:f.size=f.toList.length:=by simp
   omega
  ·have hd:=I_ f.toList m (i.toNat*e.sz) (cellsOf e (xs.drop j.toNat)) V
   have e1:(xs.take i.toNat++xs.drop j.toNat).length*e.sz=i.toNat*e.sz+(cellsOf e (xs.drop j.toNat)).length:=by
    rw[J,List.length_append,List.length_take,p,Nat.min_eq_left (by omega)];exact A
   have e2:(f.toList.drop m).take (i.toNat*e.sz)=cellsOf e (xs.take i.toNat):=by
    have:(f.toList.drop m).take (i.toNat*e.sz)=((f.toList.drop m).take (xs.length*e.sz)).take (i.toNat*e.sz):=by
     rw[List.take_take,Nat.min_eq_left (Nat.mul_le_mul_right _ (by omega))]
    rw[this,ht]
    conv=>lhs;rw[<-List.take_append_drop i.toNat xs,lM]
    have U:(cellsOf e (xs.take i.toNat)).length=i.toNat*e.sz:=by rw[dG,List.length_take,Nat.min_eq_left (by omega)]
    rw[<-U,List.take_left]
   rw[e1,lM,<-e2]
   exact hd
theorem LB [cA P] (q:Nat) {T E:TypeId} {U V y W:Nat} {z X:Value} {B:TypeDesc} {x u p:Operand} {v:Value} {i k:Int} {xs:List α} (R:ev σ x=some v) (m:ev σ u=some (.int .i64 i)) (j:ev σ p=some (.int .i64 k)) (N:M[q]? = some (Ar e v xs))
  (J:cA.tab P T=some ⟨.slice E,U,V,z⟩) (I:cA.tab P E=some ⟨B,y,W,X⟩) (f:Ea v k.toNat) (h:0<=i∧i<=k):Y P c n σ M L ⟨d,.slice T x (some u) (some p) none,ty,pos,aft,g⟩ (slq v i.toNat k.toNat y):=fun a w s t=>by
 obtain⟨F,_,_,O⟩:=t.res N
 obtain⟨o,l,cap,rfl⟩:∃o l cap,v = .slice o l cap:=by
  rcases O with⟨rfl,_⟩|⟨b,S,cap,T',A,rfl,_⟩
  ·exact⟨_,_,_,rfl⟩
  ·exact⟨_,_,_,rfl⟩
 have hc:k.toNat<=cap:=f
 have C:0<=k∧k<=(cap:Int):=by omega
 have H:0<=i∧i<=((k.toNat:Nat):Int):=by omega
 simp[execOp,s.eval R,s.eval m,s.eval j,Instr.sliceAt,Instr.slice,(cA.ok J).run_und w,Instr.sliceBounds,Instr.sliceBound,asIntOf,(cA.ok I).run_size w,slq,C,H]
 omega
theorem IG {a:Array Value} {k:Nat} {u:Value} (f:0<a.size) (h:u∈(Builtin.zeroCells a k).toList):u∈a.toList:=by
 unfold Builtin.zeroCells at h
 simp only[Array.toList_map,List.mem_map]at h
 obtain⟨i,_,rfl⟩:=h
 have b:i%a.size<a.size:=Nat.mod_lt _ f
 rw[getElem!_pos a (i%a.size) b]
 simp
theorem Rn (a:List Value) (b k o:Nat) (f:List Value) (i:b+k<=o) (h:o+f.length<=a.length):
  ((a.take o++f++a.drop (o+f.length)).drop b).take k=(a.drop b).take k:=by
 rw[List.append_assoc,List.drop_append_of_le_length (by simp;omega),List.drop_take,List.take_append_of_le_length (by simp;omega),List.take_take,Nat.min_eq_left (by omega)]
theorem KY [cA P] (q:Nat) {x:Operand} {v:Value} {xs:List α} {k m:Nat} {T E:TypeId} {s1 s2 O s4:Nat} {z l:Value} {dE:TypeDesc} (Z:ev σ x=some (slq v k m O)) (N:M[q]? = some (Ar e v xs)) (B:k=xs.length) (o:Ea v m) (ac:k<=m)
  (hT:cA.tab P T=some ⟨.slice E,s1,s2,z⟩) (hE:cA.tab P E=some ⟨dE,O,s4,l⟩) (h3:e.sz=O) (hz:l.cells.size=O) (aa:l.cells.toList.all one=true) (h:J c n σ M L (wpList P ops Q rest)):
  J c n σ M L (wpList P ops Q (⟨none,.call ⟨.builtin .clear,#[x],#[T]⟩,ty,pos,aft,none⟩::rest)):=fun a w s t=>by
 subst h3 B
 refine kC rfl ?_
 have t0:=t
 obtain⟨ho,FF,hO,R⟩:=t0
 have hA:=hO.res q _ N
 obtain⟨h0,C,hh⟩:=hA
 have I:=(cA.ok hT).run_und w
 rcases hh with⟨rfl,rfl⟩|⟨b,f,cap,T',j,rfl,y,A,B,hc,ht⟩
 ·have hm:m=0:=by have:m<=0:=o;omega
  subst hm
  have i:(execOp a.eval ⟨none,.call ⟨.builtin .clear,#[x],#[T]⟩,ty,pos,aft,none⟩).run P w = .ok (.value (.tuple #[])) w:=by
   simp[execOp,resolve,invoke,s.eval Z,builtin,Builtin.clear_,I,slq]
  simp only[Oper.wp,i,Oper.upon]
  exact h _ w s t
 ·have U:m<=cap:=o
  by_cases he:m=xs.length
  ·have i:(execOp a.eval ⟨none,.call ⟨.builtin .clear,#[x],#[T]⟩,ty,pos,aft,none⟩).run P w = .ok (.value (.tuple #[])) w:=by
    subst he
    by_cases S:cap=xs.length<;>simp[execOp,resolve,invoke,s.eval Z,builtin,Builtin.clear_,I,slq,S]
   simp only[Oper.wp,i,Oper.upon]
   exact h _ w s t
  ·have ad:xs.length<m:=by omega
   have X:cap≠xs.length:=by omega
   obtain⟨k,W⟩:∃k,m - xs.length=k+1:=⟨m - xs.length - 1,by omega⟩
   have hv:slq (.slice (some ⟨b,f,none⟩) xs.length cap) xs.length m e.sz = .slice (some ⟨b,f+xs.length*e.sz,none⟩) (k+1) (cap - xs.length):=by
    simp[slq,X,dK,W]
   have ae:(Builtin.zeroCells l.cells (k+1)).toList.length=(k+1)*e.sz:=by
    have:=size_zeroCells l.cells (k+1)
    rw[hz]at this
    simpa using this
   have p:f+xs.length*e.sz+0+(Builtin.zeroCells l.cells (k+1)).toList.length<=j.size:=by
    have h1:(xs.length+(k+1))*e.sz<=cap*e.sz:=Nat.mul_le_mul_right _ (by omega)
    have h2:(xs.length+(k+1))*e.sz=xs.length*e.sz+(k+1)*e.sz:=Nat.add_mul _ _ _
    omega
   have Y:∀u∈(Builtin.zeroCells l.cells (k+1)).toList,u.oneCell'=true:=fun u I=>by
    refine lC (List.all_eq_true.1 aa u ?_)
    exact IG (by rw[hz];exact e.pos) I
   have H:=run_storeCells_at P b (f+xs.length*e.sz) T' _ 0 j w A p Y
   simp only[Nat.add_zero]at H
   have ab:=(cA.ok hE).run_zero w
   have i:(execOp a.eval ⟨none,.call ⟨.builtin .clear,#[x],#[T]⟩,ty,pos,aft,none⟩).run P w = .ok (.value (.tuple #[])) (w.setRow b (j.toList.take (f+xs.length*e.sz)++(Builtin.zeroCells l.cells (k+1)).toList++j.toList.drop (f+xs.length*e.sz+(Builtin.zeroCells l.cells (k+1)).toList.length)).toArray):=by
    simp[execOp,resolve,invoke,s.eval Z,hv,builtin,Builtin.clear_,I,ab,H]
   simp only[Oper.wp,i,Oper.upon]
   refine h _ _ s ?_
   have F:M.set q (Ar e (.slice (some ⟨b,f,none⟩) xs.length cap) xs)=M:=by
    have hq:q<M.length:=(List.getElem?_eq_some_iff.1 N).1
    have:=(List.getElem?_eq_some_iff.1 N).2
    conv=>rhs;rw[<-List.set_getElem_self hq]
    rw[this]
   rw[<-F]
   refine Ck ho hO R N rfl rfl rfl (by simp) (fun k _ V=>setRow_other w b k _ (fun e=>V (by subst e;exact y))) (F':=FF q) ?_ (fun k B=> .inl B)
   refine⟨h0,C,.inr ⟨b,f,cap,T',_,rfl,y,setRow_heap w b _ _ T' _ A,B,?_,?_⟩⟩
   ·simp only[List.size_toArray,List.length_append,List.length_take,List.length_drop]
    have:j.size=j.toList.length:=by simp
    omega
   ·have:=Rn j.toList f (xs.length*e.sz) (f+xs.length*e.sz) (Builtin.zeroCells l.cells (k+1)).toList (Nat.le_refl _) (by simpa using p)
    rw[<-ht]
    exact this
theorem FH (i:Nat) {k:Int} {vs:List Value} {xss:List (List α)} (E:M[i]? = some (gU e vs xss)) (h:0<=k∧k<xss.length):
  lK M L (Ar e (at' vs k) (at' xss k)::M.set i (gU e (vs.set k.toNat (.slice none 0 0)) (xss.set k.toNat []))) L:=fun c w t=>by
 obtain⟨W,F,s,V⟩:=t
 obtain⟨A,G,U,u,O⟩:=s.res i _ E
 have R:k.toNat<vs.length:=by omega
 have S:i<M.length:=(List.getElem?_eq_some_iff.1 E).1
 have B:=U k.toNat _ _ (jW h.1 (by omega)) (jW h.1 h.2)
 refine⟨W,fun j q=>match j with|0=>G k.toNat q|j+1=>(j=i∧∃p,p≠k.toNat∧G p q)∨(j≠i∧F j q),⟨?_,?_,?_⟩,fun f E=> ?_⟩
 ·intro j m y
  cases j with
  |zero=>simp at y;subst y;exact B
  | succ j =>
   rw[List.getElem?_cons_succ]at y
   by_cases N:j=i
   ·subst N
    rw[List.getElem?_set_self S]at y
    cases y
    refine⟨by simp[A],fun p q=>p≠k.toNat∧G p q,fun p v xs H I=> ?_,fun p q a=> .inl ⟨rfl,p,a⟩,fun T C q b l=>O _ _ q b.2 l.2⟩
    by_cases x:p=k.toNat
    ·subst x
     rw[List.getElem?_set_self R]at H
     rw[List.getElem?_set_self (by omega)]at I
     cases H;cases I
     exact⟨by simp,rfl,.inl ⟨rfl,rfl⟩⟩
    ·rw[List.getElem?_set_ne (Ne.symm x)]at H I
     exact aX.same (f:=Ar e v xs) (U p v xs H I) (fun q a=>⟨x,a⟩) (fun _ _ _=>rfl)
   ·rw[List.getElem?_set_ne (Ne.symm N)]at y
    exact aX.same (s.res j m y) (fun q a=> .inr ⟨N,a⟩) (fun _ _ _=>rfl)
 ·intro j q a
  cases j with
  |zero=>exact s.rng i q (u _ q a)
  |succ j=>
   rcases a with⟨_,p,_,a⟩|⟨_,a⟩
   ·exact s.rng i q (u _ q a)
   ·exact s.rng j q a
 ·intro T C q b l
  cases T with
  | zero =>
   cases C with
   |zero=>rfl
   |succ C=>
    rcases l with⟨_,p,o,l⟩|⟨o,l⟩
    ·exact absurd (O _ _ q l b) o
    ·exact absurd (s.dis _ _ q l (u _ q b)) o
  | succ T =>
   cases C with
   |zero=>
    rcases b with⟨_,p,o,b⟩|⟨o,b⟩
    ·exact absurd (O _ _ q b l) o
    ·exact absurd (s.dis _ _ q b (u _ q l)) o
   |succ C=>
    congr 1
    rcases b with⟨J,p,_,b⟩|⟨J,b⟩<;>rcases l with⟨x,X,_,l⟩|⟨x,l⟩
    ·rw[J,x]
    ·exact absurd (s.dis _ _ q l (u _ q b)) x
    ·exact absurd (s.dis _ _ q b (u _ q l)) J
    ·exact s.dis _ _ q b l
 ·refine aX.same (V f E) (fun q a=>⟨a.1,fun j z=> ?_⟩) (fun _ _ _=>rfl)
  cases j with
  |zero=>exact a.2 i (u _ q z)
  |succ j=>
   rcases z with⟨_,p,_,z⟩|⟨_,z⟩
   ·exact a.2 i (u _ q z)
   ·exact a.2 j z
theorem FG (i j:Nat) {u:Value} {k:Int} {vs:List Value} {xss:List (List α)} {ys:List α} (a:Nat.beq i j=false) (b:M[i]? = some (gU e (vs.set k.toNat (.slice none 0 0)) (xss.set k.toNat []))) (f:M[j]? = some (Ar e u ys)) (h:0<=k∧k<(xss.set k.toNat []).length):
  lK M L ((M.set i (gU e (vs.set k.toNat u) (xss.set k.toNat ys))).eraseIdx j) L:=by
 have:=qR (L:=L) i j a b f h
 rwa[List.set_set,List.set_set]at this

theorem IR {α:Type} [Inhabited α] (l:List α) {j k:Int} (y:α) (h:j.toNat≠k.toNat):at' (l.set j.toNat y) k=at' l k:=by
 rw[at',at',List.getD_eq_getElem?_getD,List.getD_eq_getElem?_getD,List.getElem?_set_ne h]
theorem xD [cA P] (i:Nat) {r:eH α} (b:e.Fits r) {x y:Operand} {u l:Value} {k j:Int} {vs:List Value} {xss:List (List α)} {ys a:List α} {T E:TypeId} {O R h p:Nat} {z q:Value} {s:TypeDesc} (I:ev σ x=some (at' vs k)) (J:ev σ y=some u) (C:M[i]? = some (gU e (vs.set j.toNat l) (xss.set j.toNat a))) (F:aC M L (Sl r u ys))
  (B:cA.tab P T=some ⟨.slice E,O,R,z⟩) (A:cA.tab P E=some ⟨s,h,p,q⟩) (v:e.sz=h) (w:Nat.ble p 1024=true) (t:0<=k∧k<xss.length) (H:((at' xss k).length:Int)+ys.length<=1099511627) (N:q.cells.size=h) (f:j.toNat≠k.toNat):
  aG P c n σ M L ⟨d,.call ⟨.builtin .append,#[x,y],#[T,T]⟩,ty,pos,aft,g⟩ (fun m:Value=>m) (fun m=>M.set i (gU e ((vs.set j.toNat l).set k.toNat m) ((xss.set j.toNat a).set k.toNat (at' xss k++ys)))) (fun _=>L):=by
 have o:at' (xss.set j.toNat a) k=at' xss k:=IR _ _ f
 have:=kJ (P:=P) (c:=c) (n:=n) (σ:=σ) (M:=M) (L:=L) (d:=d) (ty:=ty) (pos:=pos) (aft:=aft) (g:=g) (x:=x) (y:=y) (u:=u) (k:=k) (vs:=vs.set j.toNat l) (xss:=xss.set j.toNat a) (ys:=ys) i b (by rw[IR _ _ f];exact I) J C F B A v w (by simpa using t) (by rw[o];exact H) N
 rwa[o]at this
theorem AF (q:Nat) {vs:List Value} {xss:List (List α)} {k j:Int} {u x:Value} (s:M[q]? = some (gU e ((vs.set k.toNat u).set j.toNat x) xss)) (f:k.toNat≠j.toNat) (h:0<=k∧k<xss.length):∀c w,St c M L w->Go.Sx.one u=true:=fun c w t=>by
 obtain⟨S,p,y,m,_⟩:=t.res s
 have a:k.toNat<vs.length:=by simp at p;omega
 obtain⟨_,_,o⟩:=m k.toNat u _ (by rw[List.getElem?_set_ne (Ne.symm f),List.getElem?_set_self a]) (List.getElem?_eq_getElem (by omega))
 rcases o with⟨i,_⟩|⟨b,v,cap,T,l,i,_⟩<;>(rw[i];rfl)
theorem JN {A:Type} {b:A->Value} {M' L':A->List aX} {f:Op} (j:aG P c n σ M L ⟨none,f,ty,pos,aft,none⟩ b M' L') (h:∀x,J c n σ (M' x) (L' x) (wpList P ops Q rest)):
  J c n σ M L (wpList P ops Q (⟨none,f,ty,pos,aft,none⟩::rest)):=fun a w s t=>
 kC rfl (HT (nF (fun l w' ⟨x,i,k⟩=>by subst i;exact h x _ w' s k) (j a w s t)))

theorem Lw [cA P] {T E:TypeId} {k C F m H:Nat} {z I:Value} {q:TypeDesc} {x y:Operand} {cs:List Value} {i:Int} (f:Nat->Value) (A:ev σ x=some (.agg cs.toArray)) (B:ev σ y=some (.int .i64 i))
  (u:cA.tab P T=some ⟨.array k E,C,F,z⟩) (o:cA.tab P E=some ⟨q,m,H,I⟩) (h:0<=i∧i<(k:Int)) (v:∀j,j<k->(if uA q then some (Value.agg (cs.toArray.extract (j*m) (j*m+m)))else cs.toArray[j*m]?)=some (f j)):
  Y P c n σ M L ⟨d,.index T x y,ty,pos,aft,g⟩ (f i.toNat):=fun a w s t=>by
 have l:=v i.toNat (by omega)
 have b:(part E cs.toArray (i.toNat*m)).run P w = .ok (f i.toNat) w:=by
  unfold part
  cases p:uA q with
  |true=>
   rw[p]at l
   simp at l
   simp[(cA.ok o).run_agg w,p,(cA.ok o).run_size w,l]
  |false=>
   rw[p]at l
   simp at l
   simp[(cA.ok o).run_agg w,p,l]
 simp[execOp,s.eval A,s.eval B,Instr.index,asIntOf,(cA.ok u).run_und w,h,(cA.ok o).run_size w,b]
end
end
section
section
variable {P:Program} {rd:Option Nat} {c:tP} {n:Sz} {σ σ':Fr} {M L M' L':List aX} {Q:Exit->Act->World->Prop} {ops:Array Oper} {rest:List Oper} {K:Act->World->Prop} {G:Act->World->Prop}
variable {d:Option Tmp} {D:Nat} {ty:TypeId} {pos:String} {aft:Array Edge} {g:Option (Nat×Bool)}
variable {α β:Type} {e:c_ α} {r:eH α}
theorem Le [cA P] (j:Nat) {T:TypeId} {s2:Nat} {z:Value} {dT:TypeDesc} {x y:Operand} {v u:Value} {i:Int} {xs:List α} (Z:α) (Y:ev σ x=some (Cp v (i.toNat*1))) (hy:ev σ y=some u) (X:e.enc Z=[u]) (o:one u=true)
  (V:M[j]? = some (Ar e v xs)) (hT:cA.tab P T=some ⟨dT,1,s2,z⟩) (I:e.sz=1) (h0:0<=i) (U:i<xs.length):
  aG P c n σ M L ⟨none,.store T x y,ty,pos,aft,none⟩ (fun _:Unit=>undef) (fun _=>M.set j (Ar e v (xs.set i.toNat Z))) (fun _=>L):=fun a w s t=>by
 obtain⟨F,H⟩:=t.res V
 have W:i.toNat<xs.length:=by omega
 have B:xs[i.toNat]? = some xs[i.toNat]:=List.getElem?_eq_getElem W
 have C:xs≠[]:=by intro e;subst e;simp at W
 obtain⟨p,hp⟩:∃p,e.enc xs[i.toNat]=[p]:=List.length_eq_one_iff.1 ((e.len _).trans I)
 have f:=Bv.cell H B (j:=0) (u:=p) (by rw[hp];rfl)
 rw[I,Nat.add_zero,Nat.mul_one]at f
 rw[Nat.mul_one]at Y
 have m:=KV H C i.toNat
 have E:(execOp a.eval ⟨none,.store T x y,ty,pos,aft,none⟩).run P w = .ok .skip (w.setCell (Ix v i.toNat) u):=by
  simp only[execOp,s.eval Y,s.eval hy,Cp]
  simp[A_ (cA.ok hT) rfl o f m]
 simp only[Oper.wp,E,Oper.upon]
 refine⟨(),trivial,t.upd V rfl rfl rfl (by simp[World.setCell]) fun F H _=> ?_⟩
 obtain⟨hl,U,O⟩:=H
 rcases O with⟨_,O⟩|⟨b,l,cap,T',J,hv,A,hb,hk,hc,ht⟩
 ·exact absurd O C
 ·subst hv
  have ha:Ix (.slice (some ⟨b,l,none⟩) xs.length cap) i.toNat=⟨b,l+i.toNat,none⟩:=by simp[Ix,dK]
  rw[ha]
  refine⟨fun k _ R=>Below.heap_setCell _ _ _ _ (fun e=>R (by simp only at e;subst e;exact A)),F,⟨by simpa using hl,?_,.inr ⟨b,l,cap,T',J.setIfInBounds (l+i.toNat) u,by simp,A,?_,by simpa using hk,by simpa using hc,?_⟩⟩,fun _ h=> .inl h⟩
  ·rw[uE I X,List.all_eq_true]
   intro q S
   rcases List.mem_or_eq_of_mem_set S with N|N
   ·exact List.all_eq_true.1 U q N
   ·rw[N];exact o
  ·simp[World.setCell,Array.getElem?_modify,hb]
  ·rw[uE I X,<-ht,Array.toList_setIfInBounds,List.length_set,<-take_set]
   congr 1
   rw[List.drop_set,if_neg (by omega),Nat.add_sub_cancel_left]
theorem Ld [cA P] (i:Nat) {T T':TypeId} {B:Nat} {z:Value} {l:TypeDesc} {x y:Operand} {b o:Nat} {cs:List Value} {v:Value} (u:ev σ x=some (.pointer (some ⟨b,o,none⟩)))
  (A:ev σ y=some v) (q:one v=true) (k:M[i]? = some (bS b cs T')) (m:cA.tab P T=some ⟨l,1,B,z⟩) (p:Nat.blt o cs.length=true):
  aG P c n σ M L ⟨none,.store T x y,ty,pos,aft,none⟩ (fun _:Unit=>undef) (fun _=>M.set i (bS b (cs.set o v) T')) (fun _=>L):=fun a w s t=>by
 obtain⟨F,j⟩:=t.res k
 have h:o<cs.length:=by simpa [Nat.blt_eq]using p
 have f:(execOp a.eval ⟨none,.store T x y,ty,pos,aft,none⟩).run P w = .ok .skip (w.setCell ⟨b,o,none⟩ v):=by
  simp[execOp,s.eval u,s.eval A,A_ (cA.ok m) rfl q (bS.cell j (List.getElem?_eq_getElem h)) (KW j o)]
 simp only[Oper.wp,f,Oper.upon]
 exact⟨(),trivial,t.store k v⟩
theorem nK [cA P] (i:Nat) {T T':TypeId} {I:Nat} {z:Value} {q:TypeDesc} {x y:Operand} {b:Nat} {cs vs:List Value} (E:ev σ x=some (.pointer (some ⟨b,0,none⟩)))
  (H:ev σ y=some (.agg vs.toArray)) (C:vs.all one=true) (p:M[i]? = some (bS b cs T')) (A:cA.tab P T=some ⟨q,vs.length,I,z⟩) (B:Nat.beq vs.length cs.length=true):
  aG P c n σ M L ⟨none,.store T x y,ty,pos,aft,none⟩ (fun _:Unit=>undef) (fun _=>M.set i (bS b vs T')) (fun _=>L):=fun a w s t=>by
 obtain⟨F,u⟩:=t.res p
 have f:vs.length=cs.length:=Nat.eq_of_beq_eq_true B
 have h:∀v∈vs,v.oneCell'=true:=fun v o=>lC (by simpa using List.all_eq_true.1 C v o)
 obtain⟨J,k,m,_,_⟩:=(cA.ok A).info
 have l:=run_storeVar_row (P:=P) w b T' T cs.toArray vs.toArray u.2 (by simp[k,m]) (by simp[f]) (by simpa using h)
 have j:(execOp a.eval ⟨none,.store T x y,ty,pos,aft,none⟩).run P w = .ok .skip (w.setRow b vs.toArray):=by
  simp[execOp,s.eval E,s.eval H,Instr.storeAt,Instr.sureAddr,l]
 simp only[Oper.wp,j,Oper.upon]
 exact⟨(),trivial,t.fill p⟩
theorem zM [cA P] (j q:Nat) {T:TypeId} {C:Nat} {z:Value} {l:TypeDesc} {x y:Operand} {v u:Value} {i:Int} {vs b:List Value} {xss:List (List α)} (h:0<=i∧i<xss.length) (A:ev σ x=some (Cp v (i.toNat*1))) (B:ev σ y=some u)
  (o:M[j]? = some (Ar c_.raw v vs)) (p:M[q]? = some (gU e b xss)) (E:b.length=vs.length) (f:one u=true) (m:cA.tab P T=some ⟨l,1,C,z⟩):
  aG P c n σ M L ⟨none,.store T x y,ty,pos,aft,none⟩ (fun _:Unit=>undef) (fun _=>M.set j (Ar c_.raw v (vs.set i.toNat u))) (fun _=>L):=fun a w s t=>by
 have k:b.length=xss.length:=by obtain⟨_,h⟩:=t.res p;exact h.1
 exact Le j u A B rfl f o m rfl h.1 (by omega) a w s t
section
variable {l:List Oper} {m:List Nat} {k0:Nat} {H Bs:List (Nat×List aX×List aX)} {rs:List Nat}
theorem pH {A:Type} {j:A->Value} {M' L':A->List aX} {i:Nat} {b:Op}
  (o:l[i]? = some ⟨none,b,ty,pos,aft,none⟩) (v:Nat.blt i k0=true) (y:dX b=true) (z:aG P c n σ M L ⟨none,b,ty,pos,aft,none⟩ j M' L')
  (q:∀x,zL (before m i) (M' x) (L' x) Bs) (h:∀x,JR c n σ (M' x) (L' x) ((i,M,L)::H) Bs (RW P l.toArray Q (before m) (cV l) k0 rs)):
  JR c n σ M L H Bs (RW P l.toArray Q (before m) (cV l) k0 (i::rs)):=fun a w X Y s t u k=>by
 have f:l.toArray[i]? = some ⟨none,b,ty,pos,aft,none⟩:=by simpa using o
 simp only[RW,f]
 rw[if_pos (by simp[Region.wanted])]
 refine .inr (.inr ⟨by simpa [Nat.blt_eq]using v,by simp[cV,o,y],nF ?_ (z a w s t)⟩)
 rintro B w' ⟨x,rfl,p⟩
 exact⟨(q x).use p k,h x _ w' _ Y s p ⟨rfl,t,u⟩ k⟩
end

theorem IN {A B:Type} {f:FuncId} {fn:Func} {b:Code} {vs:List Value} {m:Nat} {l:Op} (C:A->Prop) (i:A->B->Value) (k j:A->B->List aX) (v:uC P c n σ M L ⟨d,l,ty,pos,aft,g⟩ f vs) (z:P.funcs[f]? = some fn) (u:fn.body=some b) (F:fn.ntmps=m) (E:Nat.ble vs.length m=true)
  (o:J c ⟨m,[]⟩ (vY 0 vs) M L (b.wpr none P (fZ P fn (Vg c C i k j)))):
  aG P c n σ M L ⟨d,l,ty,pos,aft,g⟩ (fun x:{p:A×B // C p.1}=>i x.1.1 x.1.2) (fun x=>k x.1.1 x.1.2) (fun x=>j x.1.1 x.1.2):=fun a w s t=>by
 have h:=v.run a w s t
 simp only[Oper.wp,h,Oper.upon]
 refine(rD z u (o _ w (HE F E) t)).mono ?_
 rintro e w' ⟨x,y,q,rfl,H⟩
 exact⟨⟨(x,y),q⟩,rfl,H⟩
theorem AD {A B:Type} {f:FuncId} {fn:Func} {h:Code} {vs:List Value} {m:Nat} {l:Op} (C:A->Prop) (i:A->B->Value) (k j:A->B->List aX) (u:uC P c n σ M L ⟨some D,l,ty,pos,aft,none⟩ f vs) (v:P.funcs[f]? = some fn) (t:fn.body=some h) (x:fn.ntmps=m) (w:Nat.ble vs.length m=true) (s:Nat.blt D n.sz=true)
  (o:J c ⟨m,[]⟩ (vY 0 vs) M L (h.wpr none P (fZ P fn (Vg c C i k j)))) (p:∀a b,C a->J c n ((D,i a b)::σ) (k a b) (j a b) (wpList P ops Q rest)):J c n σ M L (wpList P ops Q (⟨some D,l,ty,pos,aft,none⟩::rest)):=
 aE (IN C i k j u v t x w o) s fun⟨⟨a,b⟩,q⟩=>p a b q
section
variable {l:List Oper} {mm:List Nat} {k0:Nat} {H Bs:List (Nat×List aX×List aX)} {rs:List Nat}
theorem JQ {A B:Type} {i:Nat} {f:FuncId} {fn:Func} {h:Code} {vs:List Value} {m:Nat} {p:Op} (C:A->Prop) (j:A->B->Value) (o k:A->B->List aX) (z:l[i]? = some ⟨some D,p,ty,pos,aft,none⟩) (E:Nat.blt i k0=true) (F:dX p=true) (x:uC P c n σ M L ⟨some D,p,ty,pos,aft,none⟩ f vs) (y:P.funcs[f]? = some fn) (w:fn.body=some h) (N:fn.ntmps=m) (I:Nat.ble vs.length m=true) (v:Nat.blt D n.sz=true)
  (t:∀a b,zL (before mm i) (o a b) (k a b) Bs) (q:J c ⟨m,[]⟩ (vY 0 vs) M L (h.wpr none P (fZ P fn (Vg c C j o k)))) (s:∀a b,C a->JR c n ((D,j a b)::σ) (o a b) (k a b) ((i,M,L)::H) Bs (RW P l.toArray Q (before mm) (cV l) k0 rs)):
  JR c n σ M L H Bs (RW P l.toArray Q (before mm) (cV l) k0 (i::rs)):=
 JR.loud z E F (IN C j o k x y w N I q) v (fun _=>t _ _) fun⟨⟨a,b⟩,u⟩=>s a b u
end

theorem Cm [cA P] {T E:TypeId} {k q u b A:Nat} {z B:Value} {f:TypeDesc} {x y:Operand} {v:Value} {o:Nat} {i:Int} (m:ev σ x=some (Cp v o)) (p:ev σ y=some (.int .i64 i))
  (l:cA.tab P T=some ⟨.array k E,q,u,z⟩) (j:cA.tab P E=some ⟨f,b,A,B⟩) (_h3:(b==0)=false) (h:0<=i∧i<(k:Int)):
  Y P c n σ M L ⟨d,.indexAddr T x y,ty,pos,aft,g⟩ (Cp v (o+i.toNat*b)):=fun a w s t=>by
 simp[execOp,s.eval m,s.eval p,Instr.indexAt,asIntOf,(cA.ok l).run_und w,h,Instr.sureAddr,Cp,(cA.ok j).run_size w,Gv]
theorem bU {x:Operand} {b o:Nat} (f:ev σ x=some (.pointer (some ⟨b,o,none⟩))):Y P c n σ M L ⟨d,.nilCheck x,ty,pos,aft,g⟩ (.pointer (some ⟨b,o,none⟩)):=fun a w s t=>by
 simp[execOp,s.eval f]

theorem Lg [cA P] [Inhabited α] (j:Nat) {T:TypeId} {s2 k o q:Nat} {z:Value} {dT:TypeDesc} {x y:Operand} {v u:Value} {us:List Value} {i:Int} {xs:List α} (I:α) (h:0<=i∧i<xs.length) (hx:ev σ x=some (Cp v (i.toNat*q+o))) (hy:ev σ y=some u)
  (hf:M[j]? = some (Ar e v xs)) (hq:e.sz=q) (S:u.cells=us.toArray) (hk:us.length=k) (ho:Nat.ble (o+k) q=true) (H:e.enc I=(e.enc (at' xs i)).take o++us++(e.enc (at' xs i)).drop (o+k)) (U:us.all one=true) (hT:cA.tab P T=some ⟨dT,k,s2,z⟩):
  aG P c n σ M L ⟨none,.store T x y,ty,pos,aft,none⟩ (fun _:Unit=>undef) (fun _=>M.set j (Ar e v (xs.set i.toNat I))) (fun _=>L):=fun a w s t=>by
 subst hq hk
 have an:o+us.length<=e.sz:=by simpa using ho
 have hi:i.toNat<xs.length:=by omega
 have t0:=t
 obtain⟨ag,FF,hO,ac⟩:=t0
 obtain⟨h0,p,hh⟩:=hO.res j _ hf
 rcases hh with⟨_,rfl⟩|⟨b,m,cap,T',f,rfl,V,W,X,hc,ht⟩
 ·simp at hi
 -- the parts of the row
 obtain⟨l,A,B,F,hl⟩:∃l A B,xs=l++A::B∧l.length=i.toNat:=⟨xs.take i.toNat,xs[i.toNat],xs.drop (i.toNat+1),by rw[List.getElem_cons_drop,List.take_append_drop],by simp;omega⟩
 have ae:at' xs i=A:=by
  rw[at',List.getD_eq_getElem?_getD,<-hl,F,List.getElem?_append_right (Nat.le_refl _)];simp
 rw[ae]at H
 have eE:=e.len A
 have eA:(cellsOf e l).length=i.toNat*e.sz:=by rw[dG,hl]
 have C:cellsOf e xs=cellsOf e l++(e.enc A++cellsOf e B):=by rw[F];simp[cellsOf]
 have O:cellsOf e (xs.set i.toNat I)=cellsOf e l++(e.enc I++cellsOf e B):=by
  have:xs.set i.toNat I=l++I::B:=by rw[F,<-hl,List.set_append_right _ _ (Nat.le_refl _)];simp
  rw[this];simp[cellsOf]
 have al:xs.length*e.sz<=cap*e.sz:=Nat.mul_le_mul_right _ X
 obtain⟨J,R,N,hH⟩:∃J R,f.toList=J++(cellsOf e l++(e.enc A++(cellsOf e B++R)))∧J.length=m:=by
  refine⟨f.toList.take m,(f.toList.drop m).drop (xs.length*e.sz),?_,by simp;omega⟩
  have e1:cellsOf e l++(e.enc A++(cellsOf e B++(f.toList.drop m).drop (xs.length*e.sz)))=f.toList.drop m:=by
   have:cellsOf e l++(e.enc A++(cellsOf e B++(f.toList.drop m).drop (xs.length*e.sz)))=cellsOf e xs++(f.toList.drop m).drop (xs.length*e.sz):=by rw[C];simp
   rw[this,<-ht,List.take_append_drop]
  rw[e1,List.take_append_drop]
 have aj:f.size=f.toList.length:=by simp
 have ah:f.toList.take (m+(i.toNat*e.sz+o))=J++(cellsOf e l++(e.enc A).take o):=by
  have:f.toList=(J++(cellsOf e l++(e.enc A).take o))++((e.enc A).drop o++(cellsOf e B++R)):=by
   rw[N,List.append_assoc,List.append_assoc,<-List.append_assoc ((e.enc A).take o),List.take_append_drop]
  rw[this]
  exact List.take_left' (by simp[hH,eA,eE];omega)
 have ai:f.toList.drop (m+(i.toNat*e.sz+o)+us.length)=(e.enc A).drop (o+us.length)++(cellsOf e B++R):=by
  have:f.toList=(J++(cellsOf e l++(e.enc A).take (o+us.length)))++((e.enc A).drop (o+us.length)++(cellsOf e B++R)):=by
   rw[N,List.append_assoc,List.append_assoc,<-List.append_assoc ((e.enc A).take (o+us.length)),List.take_append_drop]
  rw[this]
  exact List.drop_left' (by simp[hH,eA,eE];omega)
 have ab:(i.toNat+1)*e.sz<=xs.length*e.sz:=Nat.mul_le_mul_right _ (by omega)
 have am:(i.toNat+1)*e.sz=i.toNat*e.sz+e.sz:=by rw[Nat.add_mul,Nat.one_mul]
 have Y:m+(i.toNat*e.sz+o)+0+us.length<=f.size:=by omega
 have aa:=run_storeCells_at P b (m+(i.toNat*e.sz+o)) T' us 0 f w W Y (fun u S=>lC (List.all_eq_true.1 U u S))
 simp only[Nat.add_zero]at aa
 have ao:(cA.ok hT).run_size w=(cA.ok hT).run_size w:=rfl
 have Z:(execOp a.eval ⟨none,.store T x y,ty,pos,aft,none⟩).run P w = .ok .skip (w.setRow b (f.toList.take (m+(i.toNat*e.sz+o))++us++f.toList.drop (m+(i.toNat*e.sz+o)+us.length)).toArray):=by
  simp[execOp,s.eval hx,s.eval hy,Cp,Ix,Instr.storeAt,Instr.sureAddr,storeVar,S,(cA.ok hT).run_size w,dK,aa]
 simp only[Oper.wp,Z,Oper.upon]
 refine⟨(),trivial,?_⟩
 refine Ck ag hO ac hf rfl rfl rfl (by simp) (fun k _ af=>setRow_other w b k _ (fun e=>af (by subst e;exact V))) (F':=FF j) ?_ (fun k hk=> .inl hk)
 have E:(e.enc I).length=e.sz:=e.len I
 refine⟨by simpa using h0,?_,.inr ⟨b,m,cap,T',_,by simp,V,setRow_heap w b _ _ T' _ W,by simpa using X,?_,?_⟩⟩
 ·rw[O]
  rw[C]at p
  simp only[List.all_append,Bool.and_eq_true]at p ⊢
  refine⟨p.1,?_,p.2.2⟩
  rw[H]
  simp only[List.all_append,Bool.and_eq_true]
  refine⟨⟨List.all_eq_true.2 fun u S=>List.all_eq_true.1 p.2.1 u (List.mem_of_mem_take S),U⟩,List.all_eq_true.2 fun u S=>List.all_eq_true.1 p.2.1 u (List.mem_of_mem_drop S)⟩
 ·simp only[List.size_toArray,List.length_append,List.length_take,List.length_drop]
  omega
 ·show((f.toList.take _++us++f.toList.drop _).drop m).take ((xs.set i.toNat I).length*e.sz)=_
  rw[ah,ai,O,H,List.length_set]
  have e3:(J++(cellsOf e l++(e.enc A).take o)++us++((e.enc A).drop (o+us.length)++(cellsOf e B++R)))=J++((cellsOf e l++(((e.enc A).take o++us++(e.enc A).drop (o+us.length))++cellsOf e B))++R):=by simp
  rw[e3,<-hH,List.drop_left]
  refine List.take_left' ?_
  have ad:(cellsOf e B).length=B.length*e.sz:=dG e B
  have ak:xs.length=i.toNat+1+B.length:=by rw[F,<-hl];simp;omega
  rw[H]at E
  rw[List.length_append,List.length_append,E,eA,ad,ak,Nat.add_mul,Nat.add_mul,Nat.one_mul]
  omega
end
end
section
def ZI (D:Nat):aX where
 p w F:=F D∧w.heap[D]? = some (.deferred (some []))
 mono:=fun⟨b,a⟩ h=>by
  obtain⟨c,d⟩:=h D b (Array.getElem?_eq_some_iff.1 a).1
  exact⟨c,by rw[d];exact a⟩
structure R_ where
 n:Nat
 σ:Fr
 ps:Array Tmp
 assign:Code
 body:Code
 D:Nat
def Lp (l:Nat) (R:R_) (i:LoopState) (a:Option Code):aX where
 p w F:=F l∧∃(fn:FuncId) (tmps:Array Value),tmps.size=R.n∧(∀t v,lk R.σ t=some v->tmps[t]? = some v)∧
  w.heap[l]? = some (.loop {state:=i,pending:=a,fn:=fn,tmps:=tmps,params:=R.ps,assign:=R.assign,body:=R.body,defers:=R.D})
 mono:=fun⟨c,fn,tmps,d,e,b⟩ h=>by
  obtain⟨f,g⟩:=h l c (Array.getElem?_eq_some_iff.1 b).1
  exact⟨f,fn,tmps,d,e,by rw[g];exact b⟩
def TQ (D:Nat):Deferred:={target:= .collected D,args:= #[]}
def qD (l:Nat):Value:= .func (.yield l) #[] #[]
section
variable {P:Program} {rd:Option Nat} {c:tP} {n m:Sz} {σ σ':Fr} {M L:List aX} {Q:Exit->Act->World->Prop} {K G:Act->World->Prop}
theorem St.putLp {w:World} {l i:Nat} {R:R_} {x d:LoopState} {b a:Option Code} (t:St c M L w) (u:M[i]? = some (Lp l R x b)) {r:Loop} (o:w.heap[l]? = some (.loop r)):
  St c (M.set i (Lp l R d a)) L (w.putObj l (.loop {r with state:=d,pending:=a})):=by
 refine t.upd u rfl rfl rfl (by simp) fun F j _=>⟨fun k _ v=> ?_,F,?_,fun _ h=> .inl h⟩
 ·exact World.putObj_heap_other (fun e=>v (by subst e;exact j.1))
 ·obtain⟨p,fn,f,q,s,g⟩:=j
  rw[g]at o
  cases o
  exact⟨p,fn,f,q,s,World.putObj_heap_same (Array.getElem?_eq_some_iff.1 g).1⟩
def Sa (P:Program) (n:Sz) (σ:Fr) (l D:Nat) (Q:Exit->Act->World->Prop) (e:Ending) (w:World):Prop:=
 ∀a,Dl ⟨n.sz,TQ D::n.ds⟩ σ a->rangePost (FR none) 0 P l Q a e w
theorem La {g:Operand} {ps:Array Tmp} {assign body:Code} {f:FuncId} {fn:Func} {code:Code} {cs:List Value} {k:Nat} (hb:aO P f) (hx:ev σ g=some (.func (.func f) #[] cs.toArray)) (hf:P.funcs[f]? = some fn) (hbd:fn.body=some code) (hn:fn.ntmps=k) (hm:Nat.ble (cs.length+1) k=true)
  (h:∀l D,J c ⟨k,[]⟩ (vY 0 (qD l::cs)) (Lp l ⟨n.sz,σ,ps,assign,body,D⟩ .ready none::ZI D::M) L (code.wpr none P (fZ P fn (Sa P n σ l D Q)))):
  J c n σ M L ((Code.rangeFunc g ps assign body).wpr none P Q):=fun a w s t=>by
 refine wpIn_rangeFunc fun fn' _=> ?_
 have hev:a.eval g = .func (.func f) #[] cs.toArray:=s.eval hx
 let W:World:=(w.alloc (.deferred (some []))).alloc (.loop {state:= .ready,pending:=none,fn:=fn',tmps:=a.tmps,params:=ps,assign:=assign,body:=body,defers:=w.heap.size})
 refine⟨_,_,_,{target:= .fn (.func f) cs.toArray,args:= #[qD (w.heap.size+1)]},W,f,(qD (w.heap.size+1)::cs).toArray,W,run_enterLoop_outer fn' a.tmps ps assign body,?_,fun _ _=>trivial,?_,(fun hc=>by cases hc),?_⟩
 ·have hc:∀v,a.eval (.const v)=v:=fun _=>rfl
  simp[resolve,hev,hc,Deferred.ofValue,qD,W]
 ·simp[invoke,hb _ _,qD]
 ·have t1:St c (ZI w.heap.size::M) L (w.alloc (.deferred (some []))):=t.push _ ⟨rfl,heap_alloc_new w _⟩
  have t2:St c (Lp (w.heap.size+1) ⟨n.sz,σ,ps,assign,body,w.heap.size⟩ .ready none::ZI w.heap.size::M) L ((w.alloc (.deferred (some []))).alloc (.loop {state:= .ready,pending:=none,fn:=fn',tmps:=a.tmps,params:=ps,assign:=assign,body:=body,defers:=w.heap.size})):=by
   have:=t1.push (.loop {state:= .ready,pending:=none,fn:=fn',tmps:=a.tmps,params:=ps,assign:=assign,body:=body,defers:=w.heap.size}) (m:=Lp (w.heap.size+1) ⟨n.sz,σ,ps,assign,body,w.heap.size⟩ .ready none)
    ⟨by simp,fn',a.tmps,s.size,s.slot,by rw[<-World.size_alloc w (.deferred (some []))];exact heap_alloc_new _ _⟩
   exact this
  refine OV ((rD hf hbd (h (w.heap.size+1) w.heap.size _ _ (HE hn (by simpa using hm)) t2)).mono ?_)
  intro e w' he
  exact he _ ⟨by simp[TQ,s.defers],s.size,s.slot⟩
theorem No {fn:Func} {b:Exit} {v:Value} {l D i:Nat} {R:R_} (e:b = .ret∨b = .normal) (g:M[i]? = some (Lp l R .ready none)) (p:FE P c m σ' M L fn v) (h:J c ⟨n.sz,TQ D::n.ds⟩ σ (M.set i (Lp l R .exhausted none)) L (Q .normal)) (d:m.ds=[]:=by rfl):
  J c m σ' M L (fZ P fn (Sa P n σ l D Q) b):=fun a w s t=>by
 refine body_end e (s.defers.trans d) (p a w s t) fun k q=> ?_
 obtain⟨F,r,o,j,u,x,f⟩:=t.res g
 exact⟨none,_,run_endLoop f (by simp),h k _ q (t.putLp g f)⟩
theorem Vd {fn:Func} {b:Exit} {v:Value} {l D i:Nat} {R:R_} (e:b = .ret∨b = .normal) (g:M[i]? = some (Lp l R .done (some .ret))) (p:FE P c m σ' M L fn v) (h:J c ⟨n.sz,TQ D::n.ds⟩ σ (M.set i (Lp l R .exhausted (some .ret))) L (Q .ret)) (d:m.ds=[]:=by rfl):
  J c m σ' M L (fZ P fn (Sa P n σ l D Q) b):=fun a w s t=>by
 refine body_end e (s.defers.trans d) (p a w s t) fun k q=> ?_
 obtain⟨F,r,o,j,u,x,f⟩:=t.res g
 exact⟨some .ret,_,run_endLoop f (by simp),wpIn_ret (h k _ q (t.putLp g f))⟩
def Rx (P:Program) (l:Nat) (G:Act->World->Prop) (a:Act) (w:World):Prop:=∃w',(Instr.beginRound l).run P w = .ok () w'∧G a w'
theorem JK {l i:Nat} {R:R_} {b:Option Code} (e:M[i]? = some (Lp l R .ready b)) (h:J c n σ (M.set i (Lp l R .busy b)) L G):J c n σ M L (Rx P l G):=fun a w s t=>by
 obtain⟨F,j,g,f,k,o,d⟩:=t.res e
 exact⟨_,run_beginRound d rfl,h a _ s (t.putLp e d)⟩
def Sb (n:Sz) (σ:Fr) (d:Nat) (K:Act->World->Prop) (e:Ending) (w:World):Prop:=∃v,e = .returned v∧∀a,Dl n ((d,v)::σ) a->K a w
theorem Bw {l i d:Nat} {R:R_} {b:Option Code} (f:M[i]? = some (Lp l R .busy b)) (h:J c m ((d,.bool true)::σ') (M.set i (Lp l R .ready none)) L K):J c n σ M L (roundPost P l (Sb m σ' d K) .normal):=fun a w s t=>by
 obtain⟨F,p,k,g,q,r,e⟩:=t.res f
 exact⟨_,_,run_endRound none e,_,rfl,fun j o=>h j _ o (t.putLp f e)⟩
theorem RO {l i d:Nat} {R:R_} {b:Option Code} (f:M[i]? = some (Lp l R .busy b)) (h:J c m ((d,.bool false)::σ') (M.set i (Lp l R .done (some .ret))) L K):J c n σ M L (roundPost P l (Sb m σ' d K) .ret):=fun a w s t=>by
 obtain⟨F,p,k,g,q,r,e⟩:=t.res f
 exact⟨_,_,run_endRound (some .ret) e,_,rfl,fun j o=>h j _ o (t.putLp f e)⟩
def Dx:List Tmp->List Value->Fr->Fr
 |t::ts,v::vs,σ=>Dx ts vs ((t,v)::σ)
 |_,_,σ=>σ
theorem HC:∀(ps:List Tmp) (vs:List Value) (a:Array Value) (σ:Fr) (k:Nat),a.size=k->ps.all (fun t=>Nat.blt t k)=true->(∀t v,lk σ t=some v->a[t]? = some v)->
  ((ps.zip vs).foldl (fun a (x:Tmp×Value)=>a.setIfInBounds x.1 x.2) a).size=k∧∀t v,lk (Dx ps vs σ) t=some v->((ps.zip vs).foldl (fun a (x:Tmp×Value)=>a.setIfInBounds x.1 x.2) a)[t]? = some v
 | [],_,a,σ,k,h1,_,h3=>by simpa [Dx]using ⟨h1,h3⟩
 |_::_,[],a,σ,k,h1,_,h3=>by simpa [Dx]using ⟨h1,h3⟩
 | p :: ps, x :: vs, a, σ, k, h1, h2, h3 => by
  simp only[List.all_cons,Bool.and_eq_true]at h2
  have d:p<k:=by simpa [Nat.blt_eq]using h2.1
  simp only[List.zip_cons_cons,List.foldl_cons,Dx]
  refine HC ps vs _ _ k (by simp[h1]) h2.2 fun t v b=> ?_
  simp only[lk]at b
  by_cases e:t=p
  ·subst e
   simp at b
   subst b
   simp[h1,d]
  ·rw[lL e]at b
   simp only[cond_false]at b
   rw[Array.getElem?_setIfInBounds_ne (Ne.symm e)]
   exact h3 t v b
theorem Vf {ops:Array Oper} {rest:List Oper} {t:Tmp} {xs:List Operand} {us:List Value} {b:Array TypeId} {d:Nat} {ty:TypeId} {pos:String} {aft:Array Edge} {l i:Nat} {R:R_} {ps:List Tmp} (D:lk σ t=some (qD l)) (H:xs.map (ev σ)=us.map some) (C:M[i]? = some (Lp l R .ready none)) (j:R.ps=ps.toArray) (g:us.length=ps.length) (f:ps.all (fun t=>Nat.blt t R.n)=true) (B:Nat.blt d n.sz=true)
  (h:J c ⟨R.n,[]⟩ (Dx ps us R.σ) M L (R.assign.wpr (some l) P (Exit.then (Rx P l (R.body.wpr (some l) P (roundPost P l (Sb n σ d (wpList P ops Q rest))))) (fun _ _ _=>False)))):
  J c n σ M L (wpList P ops Q (⟨some d,.call ⟨.value (.tmp t),xs.toArray,b⟩,ty,pos,aft,none⟩::rest)):=fun a w s o=>by
 obtain⟨F,O,u,tmps,y,z,A⟩:=o.res C
 have e:=YF s H
 have p:a.eval (.tmp t)=qD l:=s.eval (x:= .tmp t) D
 have I:=run_yield (P:=P) (args:=us.toArray) A (by simp[j,g])
 have k:(execOp a.eval ⟨some d,.call ⟨.value (.tmp t),xs.toArray,b⟩,ty,pos,aft,none⟩).run P w=(Instr.yield l us.toArray).run P w:=by
  simp[execOp,resolve,p,qD,Deferred.ofValue,invoke,e]
 unfold wpList
 rw[if_pos (show Region.wanted _ _=true from rfl)]
 refine .inr ⟨_,_,_,_,_,_,k.trans I,?_⟩
 refine RoundIn.mono (R:=Sb n σ d (wpList P ops Q rest)) (roundIn_of_wpIn (F:=FR none) trivial ?_) ?_
 ·obtain⟨q,r⟩:=HC ps us tmps R.σ R.n y f z
  have:=h {tmps:=(ps.zip us).foldl (fun tmps (x:Tmp×Value)=>tmps.setIfInBounds x.1 x.2) tmps,defers:=[]} w ⟨rfl,q,r⟩ o
  simp only[j,List.zip_toArray,List.foldl_toArray]
  exact this
 ·rintro e N ⟨v,rfl,E⟩
  exact⟨v,rfl,E _ (s.put d v B)⟩
theorem JP {g:Operand} {ps:Array Tmp} {assign body:Code} {f:FuncId} {fn:Func} {code:Code} {cs:List Value} {k:Nat} (hb:aO P f) (hx:ev σ g=some (.func (.func f) #[] cs.toArray)) (hf:P.funcs[f]? = some fn) (hbd:fn.body=some code) (hn:fn.ntmps=k) (hm:Nat.ble (cs.length+1) k=true)
  (h:∀(l D:Nat) (R:R_),R.n=n.sz∧R.σ=σ∧R.ps=ps∧R.assign=assign∧R.body=body->J c ⟨k,[]⟩ (vY 0 (qD l::cs)) (Lp l R .ready none::ZI D::M) L (code.wpr none P (fZ P fn (Sa P n σ l D Q)))):
  J c n σ M L ((Code.rangeFunc g ps assign body).wpr none P Q):=La hb hx hf hbd hn hm fun l D=>h l D _ ⟨rfl,rfl,rfl,rfl,rfl⟩
theorem GU {ops:Array Oper} {rest:List Oper} {t:Tmp} {xs:List Operand} {us:List Value} {j:Array TypeId} {d:Nat} {ty:TypeId} {pos:String} {aft:Array Edge} {l i k:Nat} {R:R_} {ps:List Tmp} {g:Fr} {a b:Code} (p:R.n=k∧R.σ=g∧R.ps=ps.toArray∧R.assign=a∧R.body=b) (s:lk σ t=some (qD l)) (u:xs.map (ev σ)=us.map some) (r:M[i]? = some (Lp l R .ready none)) (f:us.length=ps.length) (e:ps.all (fun t=>Nat.blt t k)=true) (q:Nat.blt d n.sz=true)
  (h:J c ⟨k,[]⟩ (Dx ps us g) M L (a.wpr (some l) P (Exit.then (Rx P l (b.wpr (some l) P (roundPost P l (Sb n σ d (wpList P ops Q rest))))) (fun _ _ _=>False)))):
  J c n σ M L (wpList P ops Q (⟨some d,.call ⟨.value (.tmp t),xs.toArray,j⟩,ty,pos,aft,none⟩::rest)):=by
 obtain⟨rfl,rfl,o,rfl,rfl⟩:=p
 exact Vf s u r o f e q h
end
end
section
def FX (Ds:List Nat):List Deferred:=Ds.map TQ
def Gd (Ds:List Nat):aX where
 p w F:=Ds.Nodup∧∀D∈Ds,F D∧w.heap[D]? = some (.deferred (some []))
 mono:=fun⟨c,a⟩ h=>⟨c,fun D b=>by
  obtain⟨d,e⟩:=h D (a D b).1 (Array.getElem?_eq_some_iff.1 (a D b).2).1
  exact⟨d,by rw[e];exact(a D b).2⟩⟩
section
variable {P:Program} {rd:Option Nat} {c:tP} {n m:Sz} {σ σ':Fr} {M L:List aX} {Q:Exit->Act->World->Prop} {K G:Act->World->Prop}
theorem Ha:lK M L (Gd []::M) L:=lK.add fun _=>⟨List.nodup_nil,by simp⟩
theorem Lr (i j:Nat) {D:Nat} {Ds:List Nat} (d:i≠j) (k:M[i]? = some (Gd Ds)) (l:M[j]? = some (ZI D)):lK M L ((M.set i (Gd (D::Ds))).eraseIdx j) L:=fun c w t=>
 t.merge i j d k l (by
  rintro w p q ⟨f,b⟩ ⟨e,g⟩ h
  refine⟨List.nodup_cons.2 ⟨fun o=>h D (b D o).1 e,f⟩,fun E a=> ?_⟩
  rcases List.mem_cons.1 a with rfl|a
  ·exact⟨.inr e,g⟩
  ·exact⟨.inl (b E a).1,(b E a).2⟩)
theorem AE {g:Operand} {ps:Array Tmp} {assign body:Code} {f:FuncId} {fn:Func} {code:Code} {cs:List Value} {k i s:Nat} (Ds:List Nat) (hi:M[i]? = some (Gd Ds)) (hb:aO P f) (hx:ev σ g=some (.func (.func f) #[] cs.toArray)) (hf:P.funcs[f]? = some fn) (hbd:fn.body=some code) (hn:fn.ntmps=k) (hm:Nat.ble (cs.length+1) k=true)
  (h:∀(l D:Nat) (R:R_),R.n=s∧R.σ=σ∧R.ps=ps∧R.assign=assign∧R.body=body->J c ⟨k,[]⟩ (vY 0 (qD l::cs)) (Lp l R .ready none::M.set i (Gd (D::Ds))) L (code.wpr none P (fZ P fn (Sa P ⟨s,FX Ds⟩ σ l D Q)))):
  J c ⟨s,FX Ds⟩ σ M L ((Code.rangeFunc g ps assign body).wpr none P Q):=JP hb hx hf hbd hn hm fun l D R hR=>
 dV (Lr (i+2) 1 (by omega) hi rfl) (h l D R hR)
theorem oW {fn:Func} {R:Ending->World->Prop} {f:Exit} {i k:Nat} (b:f = .ret∨f = .normal):∀{Ds:List Nat} {M:List aX},M[i]? = some (Gd Ds)->J c ⟨k,[]⟩ σ (M.set i (Gd [])) L (fZ P fn R f)->J c ⟨k,FX Ds⟩ σ M L (fZ P fn R f)
 | [], M, hi, h => by
  have:M.set i (Gd [])=M:=by
   apply List.ext_getElem?
   intro j
   by_cases e:i=j
   ·subst e
    rw[hi]
    simp[(List.getElem?_eq_some_iff.1 hi).1]
   ·simp[List.getElem?_set_ne e]
  rw[this]at h
  exact h
 | D :: Ds, M, hi, h => fun a w s t => by
  obtain⟨F,u,p⟩:=t.res hi
  have r:St c (M.set i (Gd Ds)) L (w.putObj D (.deferred none)):=by
   refine t.upd hi rfl rfl rfl (by simp) fun F d _=>⟨fun k _ q=> ?_,F,?_,fun _ h=> .inl h⟩
   ·exact World.putObj_heap_other (fun e=>q (e▸(d.2 D (by simp)).1))
   ·obtain⟨o,d⟩:=d
    refine⟨(List.nodup_cons.1 o).2,fun E g=>⟨(d E (by simp[g])).1,?_⟩⟩
    rw[World.putObj_heap_other (fun e=>(List.nodup_cons.1 o).1 (by subst e;exact g))]
    exact(d E (by simp[g])).2
  refine Qt b s.defers (p D (by simp)).2 ?_
  have l:(M.set i (Gd Ds))[i]? = some (Gd Ds):=by simp[(List.getElem?_eq_some_iff.1 hi).1]
  have:=oW b l (by rw[List.set_set];exact h) {tmps:=a.tmps,defers:=FX Ds} _ ⟨rfl,s.size,s.slot⟩ r
  rcases b with rfl|rfl<;>exact this
def ZL {A B:Type} (c:tP) (f:A->B->Sz) (C:A->Prop) (b:A->B->Fr) (e d:A->B->List aX) (a:Act) (w:World):Prop:=∃x y,C x∧Dl (f x y) (b x y) a∧St c (e x y) (d x y) w
theorem JO {A B:Type} {x:Code} (h:A->B->Sz) (C:A->Prop) (d:A->B->Fr) (g f:A->B->List aX) (j:J c n σ M L (x.wpr rd P (Exit.then (ZL c h C d g f) Q))) (k:∀a b,C a->J c (h a b) (d a b) (g a b) (f a b) K):
  J c n σ M L (x.wpr rd P (Exit.then K Q)):=fun a w s t=>EF (fun e i w' q=>by
 cases e with
 |normal=>obtain⟨z,y,o,p,r⟩:=q;exact k z y o i w' p r
 |exit id=>exact q
 |goto l=>exact q
 |ret=>exact q
 |panic ch=>exact q
 |outgrown=>exact q) (j a w s t)
theorem DN {A B:Type} {e:A->B->Sz} {C:A->Prop} {a:A->B->Fr} {d b:A->B->List aX} (x:A) (y:B) (i:n=e x y) (f:C x) (j:wW σ (a x y)) (h:aS M (d x y)) (g:aA [] L (b x y)):J c n σ M L (ZL c e C a d b):=
 fun _ _ s t=>⟨x,y,f,i▸s.weak j,t.weakE h g⟩
end
end
section
def Gb (b:Nat) (cs:List Value):aX where
 p w S:=S b∧∃T,w.heap[b]? = some (.cells cs.toArray T (0,0))
 mono:=fun⟨c,T,a⟩ h=>by
  obtain⟨d,e⟩:=h b c (Array.getElem?_eq_some_iff.1 a).1
  exact⟨d,T,by rw[e];exact a⟩
section
variable {P:Program} {c:tP} {n:Sz} {σ:Fr} {M L:List aX} {d:Option Tmp} {ty:TypeId} {pos:String} {aft:Array Edge} {g:Option (Nat×Bool)} {α:Type} {e:c_ α}
theorem Lv [cA P] {T E:TypeId} {u:IntKind} {k v A f B:Nat} {z C:Value} {l:TypeDesc} {x y:Operand} {b:Nat} {i:Int} (q:ev σ x=some (.pointer (some ⟨b,0,none⟩))) (r:ev σ y=some (.int u i))
  (p:cA.tab P T=some ⟨.array k E,v,A,z⟩) (o:cA.tab P E=some ⟨l,f,B,C⟩) (m:(f==0)=false) (h:0<=i∧i<(k:Int)):
  Y P c n σ M L ⟨d,.indexAddr T x y,ty,pos,aft,g⟩ (.pointer (some ⟨b,i.toNat*f,none⟩)):=fun a w s t=>by
 have j:f≠0:=by simpa using m
 simp[execOp,s.eval q,s.eval r,Instr.indexAt,asIntOf,(cA.ok p).run_und w,h,Instr.sureAddr,(cA.ok o).run_size w,j,dK]
theorem Qo [cA P] [Inhabited α] {T:TypeId} {C:Nat} {z:Value} {m:TypeDesc} {x:Operand} {b k:Nat} {i:Int} {xs:List α} {u:Value} (o:ev σ x=some (.pointer (some ⟨b,i.toNat*1,none⟩)))
  (r:aC M L (Gb b (cellsOf e xs))) (v:cA.tab P T=some ⟨m,1,C,z⟩) (y:uA m=false) (A:e.sz=1) (B:(e.enc (at' xs i))=[u]) (h:(0<=i∧i<(k:Int))∧xs.length=k):
  Y P c n σ M L ⟨d,.load T x,ty,pos,aft,g⟩ u:=fun a w s t=>by
 obtain⟨F,f,T',j⟩:=r.st t
 have q:(bS b (cellsOf e xs) T').p w F:=⟨f,j⟩
 have l:=tU e xs i.toNat (at' xs i) (jW h.1.1 (by omega)) 0 u (by rw[B];rfl)
 rw[A,Nat.add_zero]at l
 rw[Nat.mul_one]at o l
 simp[execOp,s.eval o,wD (cA.ok v) y (bS.cell q l)]
end
end
end Go.Sx
end
section
namespace Go.Sx
section
variable {P:Program} {M L:List aX} {α β γ:Type} {r:eH α} {s:eH γ} {q:eH β}
def eH.Deep (r:eH α) (q:eH β) (f:α->Value×List β):Prop:=∀{w S es x},r.R w S es x->Gs q w S (f x).1 (f x).2
theorem Bz (q:eH β):(eH.sl q).Deep q (fun x=>x):=fun h=>h.2
theorem Ql {f:α->Value×List β} (h:r.Deep q f):(r.pair s).Deep q (fun x=>f x.1):=by
 rintro w S d x ⟨b,c,rfl,a,_⟩
 exact h a
theorem Cj {f:α->Value×List β} (h:r.Deep q f):(s.pair r).Deep q (fun x=>f x.2):=by
 rintro w S d x ⟨b,c,rfl,_,a⟩
 exact h a
theorem tT [Inhabited α] {v:Value} {xs:List α} {i:Int} {f:α->Value×List β} (h:aC M L (Sl r v xs)) (c:r.Deep q f) (a:0<=i) (b:i<xs.length):aC M L (Sl q (f (at' xs i)).1 (f (at' xs i)).2):=h.mono fun {w U} hs=>by
 obtain⟨e,d,_⟩:=sl_cell hs (jW a b)
 exact c d
def Hm (s:ByteArray):List Int:=s.data.toList.map fun b=>(b.toNat:Int)
theorem AK [cA P] {c:tP} {n:Sz} {σ:Fr} {d:Option Tmp} {ty:TypeId} {pos:String} {aft:Array Edge} {g:Option (Nat×Bool)} {T:TypeId} {B C:Nat} {z:Value} {x y:Operand} {s:ByteArray} {xs:List Int} {k:IntKind} {i:Int} (v:ev σ x=some (.string s)) (A:ev σ y=some (.int k i)) (l:cA.tab P T=some ⟨.string,B,C,z⟩) (o:Hm s=xs) (h:0<=i∧i<xs.length):
  Y P c n σ M L ⟨d,.index T x y,ty,pos,aft,g⟩ (.int .u8 (at' xs i)):=fun a w f t=>by
 subst o
 obtain⟨D,b⟩:=h
 obtain⟨j,rfl⟩:∃j:Nat,i=(j:Int):=⟨i.toNat,by omega⟩
 have e:j<s.data.toList.length:=by unfold Hm at b;simp at b ⊢;omega
 have u:j<s.size:=by have:=Lib.size_eq s;simp at e;omega
 have p:s[j]? = some (s.data.toList[j]):=by
  rw[getElem?_pos s j u];rfl
 have m:at' (Hm s) (j:Int)=((s.data.toList[j]).toNat:Int):=by
  unfold at' Hm
  simp[List.getD_eq_getElem?_getD,List.getElem?_eq_getElem e]
 rw[m]
 simp[execOp,f.eval v,f.eval A,Instr.index,asIntOf,(cA.ok l).run_und w,p]
theorem NA [cA P] {c:tP} {n:Sz} {σ:Fr} {d:Option Tmp} {ty:TypeId} {pos:String} {aft:Array Edge} {g:Option (Nat×Bool)} {T E:TypeId} {u v y A m b:Nat} {z B:Value} {i:TypeDesc} {x f:Operand} {k:Int} (p:ev σ x=some (.pointer (some ⟨b,0,none⟩))) (e:ev σ f=some (.int .i64 k))
  (o:cA.tab P T=some ⟨.array m E,u,v,z⟩) (l:cA.tab P E=some ⟨i,y,A,B⟩) {q:Int} (h:0<=k∧k<=((m:Nat):Int)∧k<=q):Y P c n σ M L ⟨d,.slice T x none (some f) none,ty,pos,aft,g⟩ (.slice (some ⟨b,0,none⟩) k.toNat m):=fun a w s t=>by
 have j:0<=k∧k<=(m:Int):=⟨h.1,h.2.1⟩
 simp[execOp,s.eval p,s.eval e,Instr.sliceAt,Instr.slice,(cA.ok o).run_und w,Instr.sliceBounds,Instr.sliceBound,asIntOf,(cA.ok l).run_size w,j,asAddr,Addr.add,Instr.sureAddr]
theorem RQ {e:c_ α} {i b T m:Nat} {k:Int} {xs:List α} (p:M[i]? = some (bS b (cellsOf e xs) T)) (a:e.Fits r) (h:0<=k∧k<=((m:Nat):Int)∧k<=(xs.length:Int)) (o:m<=9223372036854775807):aC M L (Sl r (.slice (some ⟨b,0,none⟩) k.toNat m) (xs.take k.toNat)):=fun w S T U z d A t=>by
 have l:=d i _ p
 have n:(xs.take k.toNat).length=k.toNat:=by simp;omega
 refine⟨some ⟨b,0,none⟩,m,by rw[n],by rw[n];omega,.inr ⟨b,0,rfl,t _ _ l.1,fun j x c=> ?_⟩⟩
 have g:xs[j]? = some x:=by
  rw[List.getElem?_take]at c
  split at c
  ·exact c
  ·cases c
 obtain⟨f,B,v,_⟩:=a
 refine⟨e.enc x,fun q u y=> ?_,v⟩
 have hc:=tU e xs _ _ g _ _ y
 rw[f,Nat.zero_add]
 exact bS.cell l hc
def eH.All (r:eH α) (n:Nat) (g:α->List Value):Prop:=r.sz=n∧∀{w S es x},r.R w S es x->es=g x
theorem Nv {e:c_ α} (h:e.Fits r):r.All e.sz e.enc:=⟨h.1,h.2.1⟩
theorem Nw (q:eH β):(eH.sl q).All 1 (fun x=>[x.1]):=⟨rfl,fun h=>h.1⟩
theorem JU {n m:Nat} {f:α->List Value} {g:γ->List Value} (h:r.All n f) (k:s.All m g):(r.pair s).All (n+m) (fun x=>f x.1++g x.2):=⟨by show r.sz+s.sz=_;rw[h.1,k.1],by
 rintro w S e x ⟨c,d,rfl,a,b⟩
 rw[h.2 a,k.2 b]⟩
theorem Ny [cA P] [Inhabited α] {c:tP} {n:Sz} {σ:Fr} {d:Option Tmp} {ty:TypeId} {pos:String} {aft:Array Edge} {g:Option (Nat×Bool)} {T:TypeId} {H q m:Nat} {z:Value} {k:TypeDesc} {x:Operand} {v:Value} {i:Int} {xs:List α} {cs:List Value} {f:α->List Value} (G:ev σ x=some (Cp v (i.toNat*q))) (C:aC M L (Sl r v xs)) (l:r.All m f) (e:f (at' xs i)=cs)
  (y:cA.tab P T=some ⟨k,cs.length,H,z⟩) (B:uA k=true) (D:m=q) (h:0<=i∧i<xs.length):Y P c n σ M L ⟨d,.load T x,ty,pos,aft,g⟩ (.agg cs.toArray):=fun a w s t=>by
 obtain⟨o,p⟩:=h
 obtain⟨S,h⟩:=C.st t
 obtain⟨I,E,b⟩:=sl_cell h (jW o p)
 have:=l.2 E
 subst this e
 rw[l.1,D]at b
 have:=xA (w:=w) (A:=Ix v (i.toNat*q)) (cs:=f (at' xs i)) (cA.ok y) B rfl (fun j u F=>by rw[Gv];exact b j u F)
 simp[execOp,s.eval G,Cp,this]
end
end Go.Sx
end
section
namespace Go.Sx
open Go.RowKit
section
section
variable {P:Program} {c:tP} {n:Sz} {σ:Fr} {M L:List aX} {d:Option Tmp} {ty:TypeId} {pos:String} {aft:Array Edge} {g:Option (Nat×Bool)}
def ZO (v:Value) (m:Nat):Prop:=∃a cap,v = .slice a m cap∧(m=0∨∃b e,a=some ⟨b,e,none⟩)
theorem Know.len {f:Type} {r:eH f} {v:Value} {xs:List f} (j:aC M L (Sl r v xs)):∀c w,St c M L w->ZO v xs.length:=fun c w t=>by
 obtain⟨S,i,cap,k,_,h⟩:=j.st t
 exact⟨i,cap,k,h.imp (fun h=>by simp[h]) fun⟨b,a,e,_⟩=>⟨b,a,e⟩⟩
theorem DX [cA P] {T E:TypeId} {A B j C m:Nat} {z D:Value} {l:TypeDesc} {x y:Operand} {v:Value} {i:Int} (s:ev σ x=some v) (u:ev σ y=some (.int .i64 i)) (e:ZO v m)
  (r:cA.tab P T=some ⟨.slice E,A,B,z⟩) (q:cA.tab P E=some ⟨l,j,C,D⟩) (h:0<=i∧i<(m:Int)):Y P c n σ M L ⟨d,.indexAddr T x y,ty,pos,aft,g⟩ (Cp v (i.toNat*j)):=fun a w k t=>by
 obtain⟨F,cap,rfl,e⟩:=e
 obtain⟨o,p⟩:=h
 rcases e with rfl|⟨b,f,rfl⟩
 ·omega
 ·simp[execOp,k.eval s,k.eval u,Fv w (cA.ok r) rfl (cA.ok q) b f _ cap i o p]
theorem GY [cA P] (i:Nat) {T T':TypeId} {G m o b:Nat} {z:Value} {p:TypeDesc} {x y:Operand} {cs e us:List Value} {u:Value} (D:ev σ x=some (.pointer (some ⟨b,o,none⟩))) (E:ev σ y=some u) (k:u.cells=us.toArray) (A:us.length=m)
  (q:us.all one=true) (l:M[i]? = some (bS b cs T')) (v:cA.tab P T=some ⟨p,m,G,z⟩) (B:Nat.ble (o+m) cs.length=true) (j:cs.take o++us++cs.drop (o+m)=e):
  aG P c n σ M L ⟨none,.store T x y,ty,pos,aft,none⟩ (fun _:Unit=>undef) (fun _=>M.set i (bS b e T')) (fun _=>L):=fun a w s t=>by
 subst A j
 obtain⟨F,r⟩:=t.res l
 have C:o+us.length<=cs.length:=by simpa using B
 have h:=run_storeCells_at P b o T' us 0 cs.toArray w r.2 (by simp;omega) (fun u k=>lC (List.all_eq_true.1 q u k))
 simp only[Nat.add_zero]at h
 have f:(execOp a.eval ⟨none,.store T x y,ty,pos,aft,none⟩).run P w = .ok .skip (w.setRow b (cs.take o++us++cs.drop (o+us.length)).toArray):=by
  simp[execOp,s.eval D,s.eval E,Instr.storeAt,Instr.sureAddr,storeVar,k,(cA.ok v).run_size w,h]
 simp only[Oper.wp,f,Oper.upon]
 exact⟨(),trivial,t.fill l⟩
theorem Dy {a:Type} [Inhabited a] (l:List a) (k:Int) (h:k.toNat<l.length) (b:0<=k):l.set k.toNat (at' l k)=l:=by
 have:=jW (xs:=l) b (by omega)
 refine List.ext_getElem? fun i=> ?_
 by_cases e:k.toNat=i
 ·subst e
  rw[List.getElem?_set_self h,this]
 ·rw[List.getElem?_set_ne e]
theorem yB [cA P] {f:Type} [Inhabited f] {e:c_ f} (j:Nat) {T:TypeId} {O m o q:Nat} {z:Value} {B:TypeDesc} {x y:Operand} {u:Value} {us:List Value} {i k:Int} {vs:List Value} {xss:List (List f)} (b:f) (v:0<=k∧k<xss.length) (h:0<=i∧i<(at' xss k).length) (K:ev σ x=some (Cp (at' vs k) (i.toNat*q+o))) (N:ev σ y=some u)
  (r:M[j]? = some (gU e vs xss)) (H:e.sz=q) (J:u.cells=us.toArray) (F:us.length=m) (G:Nat.ble (o+m) q=true) (A:e.enc b=(e.enc (at' (at' xss k) i)).take o++us++(e.enc (at' (at' xss k) i)).drop (o+m)) (l:us.all one=true) (C:cA.tab P T=some ⟨B,m,O,z⟩):
  aG P c n σ M L ⟨none,.store T x y,ty,pos,aft,none⟩ (fun _:Unit=>undef) (fun _=>M.set j (gU e vs (xss.set k.toNat ((at' xss k).set i.toNat b)))) (fun _=>L):=fun a w s t=>by
 have R:=bZ j r c w t
 have E:j<M.length:=(List.getElem?_eq_some_iff.1 r).1
 refine nF (fun Q w' ⟨x,D,I⟩=>⟨x,D,?_⟩) (Lg 0 b h K N rfl H J F G A l C a w s (FH j r v c w t))
 have p:=FG (j+1) 0 (u:=at' vs k) (k:=k) (vs:=vs) (xss:=xss) (ys:=(at' xss k).set i.toNat b) (e:=e) rfl (by simp[E]) rfl (by simpa using v) c w' I
 simp only[List.set_cons_zero,List.set_cons_succ,List.eraseIdx_cons_zero,List.set_set]at p
 rw[Dy vs k (by omega) v.1]at p
 exact p
end
theorem aS.ix {M M':List aX} (l:List Nat) (b:decide l.Nodup=true) (h:l.map (fun i=>M[i]?)=M'.map some):aS M M':=by
 have b:l.Nodup:=of_decide_eq_true b
 have g:l.length=M'.length:=by simpa using congrArg List.length h
 refine⟨fun i=>l.getD i 0,fun i j a k e=> ?_,fun i m c=> ?_⟩
 ·have d:i<l.length:=by omega
  have f:j<l.length:=by omega
  simp only[List.getD_eq_getElem?_getD,List.getElem?_eq_getElem d,List.getElem?_eq_getElem f,Option.getD_some]at e
  exact(List.getElem_inj b).1 e
 ·have a:i<l.length:=by rw[g];exact(List.getElem?_eq_some_iff.1 c).1
  have:=congrArg (fun q=>q[i]?) h
  simp only[List.getElem?_map,List.getElem?_eq_getElem a,c,Option.map_some,Option.some.injEq]at this
  simpa [List.getD_eq_getElem?_getD,List.getElem?_eq_getElem a]using this
def c_.fn:c_ Nat:=⟨1,Nat.one_pos,fun f=>[.func (.func f) #[] #[]],fun _=>rfl⟩
def eH.fn:eH Nat:=⟨1,Nat.one_pos,fun _ _ cs x=>cs=[.func (.func x) #[] #[]],fun h=>by simp[h],fun h _=>h⟩
theorem KX:c_.fn.Fits eH.fn:=⟨rfl,fun h=>h,rfl,fun _=>rfl⟩
end
section
variable {P:Program} {rd:Option Nat} {c:tP} {n:Sz} {σ:Fr} {M L:List aX} {Q:Exit->Act->World->Prop} {ops:Array Oper} {rest:List Oper} {d:Nat} {ty:TypeId} {pos:String} {aft:Array Edge} {x y:Operand} {v:Value} {K:Act->World->Prop}
abbrev vS (x:ByteArray):Value:= .string x
abbrev vB (x:Bool):Value:= .bool x
theorem ckE {a:Type} {p G:Prop} {_:Decidable p} {u:Option a} {r:a} (h:ck p u=some r) (k:p->u=some r->G):G:=k (OX h).1 (OX h).2
theorem bnE {a b:Type} {G:Prop} {u:Option a} {f:a->Option b} {r:b} (h:u.bind f=some r) (k:∀y,u=some y->f y=some r->G):G:=by
  obtain⟨y,e,g⟩:=ZV h
  exact k y e g
theorem iJ (l:List Nat) {a:List aX} (h:l.map (L[·]?)=a.map some):aA M L a:=fun f b=>by
  have g:some f∈l.map (L[·]?):=h▸List.mem_map_of_mem b
  obtain⟨j,_,e⟩:=List.mem_map.1 g
  exact aC.fact j e
theorem xT.ix (l:List Nat) {a:List aX} (h:l.map (L[·]?)=a.map some):xT L a:=fun f b=>by
  have g:some f∈l.map (L[·]?):=h▸List.mem_map_of_mem b
  obtain⟨j,_,e⟩:=List.mem_map.1 g
  exact List.mem_of_getElem? e
theorem lA {f:aX} (i:Nat) (h:L[i]? = some f):xT L [f]:=xT.cons (List.mem_of_getElem? h) xT.nil
/-- which of the early loads must still hold,with the numbers of what they have read -/
def Yo (A:Nat->Bool):List (List Nat×List Nat)->List (Nat×List aX×List aX)->List (List Nat×List Nat×List aX×List aX)
  |_,[]=>[]
  |q,(j,Mx,Lx)::B=>bif A j||(Mx.isEmpty&&Lx.isEmpty)then Yo A q B else((q.headD ([],[])).1,(q.headD ([],[])).2,Mx,Lx)::Yo A q.tail B
theorem jM {A:Nat->Bool} (q:List (List Nat×List Nat)) {B:List (Nat×List aX×List aX)} (h:(Yo A q B).map (fun z=>(decide z.1.Nodup,z.1.map (M[·]?),z.2.1.map (L[·]?)))=(Yo A q B).map (fun z=>(true,z.2.2.1.map some,z.2.2.2.map some))):zL A M L B:=by
  induction B generalizing q with
  |nil=>exact zL.z
  | cons b B ih =>
    obtain⟨j,k,i⟩:=b
    cases a:A j with
    |true=>exact zL.b a (ih q (by simpa [Yo,a]using h))
    | false =>
      cases g:(k.isEmpty&&i.isEmpty)with
      | true =>
        obtain⟨e,f⟩:=Bool.and_eq_true_iff.1 g
        rw[List.isEmpty_iff]at e f
        subst e;subst f
        exact zL.h aS.nil xT.nil (ih q (by simpa [Yo,a]using h))
      | false =>
        simp only[Yo,a,g,Bool.or_self,cond_false,List.map_cons,List.cons.injEq,Prod.mk.injEq]at h
        exact zL.h (aS.ix _ h.1.1 h.1.2.1) (xT.ix _ h.1.2.2) (ih q.tail h.2)
def hkB (A:Nat->Bool):List (Nat×List aX×List aX)->Bool
  | []=>true
  |(j,_,_)::H=>bif A j then hkB A H else false
theorem hkI {A:Nat->Bool} {f e:List aX} {H:List (Nat×List aX×List aX)} (h:hkB A H=true):aK A f e H:=by
  induction H with
  |nil=>exact aK.z
  | cons b B ih =>
    obtain⟨j,_,_⟩:=b
    cases a:A j with
    |false=>simp[hkB,a]at h
    |true=>exact aK.b a (ih (by simpa [hkB,a]using h))
theorem hkN {A:Nat->Bool} {H:List (Nat×List aX×List aX)}:aK A [] [] H:=by
  induction H with
  |nil=>exact aK.z
  |cons b B a=>exact aK.h aS.nil xT.nil a
theorem qkPkT {T:Operand} (h:(ev σ T,ev σ x,Nat.blt d n.sz)=(some (.bool true),some v,true)) (k:J c n ((d,v)::σ) M L (wpList P ops Q rest)):J c n σ M L (wpList P ops Q (⟨some d,.pick T x y,ty,pos,aft,none⟩::rest)):=by
  simp only[Prod.mk.injEq]at h
  exact aB (JW h.1 h.2.1) h.2.2 k
theorem qkPkF {T:Operand} (h:(ev σ T,ev σ y,Nat.blt d n.sz)=(some (.bool false),some v,true)) (k:J c n ((d,v)::σ) M L (wpList P ops Q rest)):J c n σ M L (wpList P ops Q (⟨some d,.pick T x y,ty,pos,aft,none⟩::rest)):=by
  simp only[Prod.mk.injEq]at h
  exact aB (Gt h.1 h.2.1) h.2.2 k
theorem qkExt {vs:List Value} {i:Nat} (h:(ev σ x,vs[i]?,Nat.blt d n.sz)=(some (.tuple vs.toArray),some v,true)) (k:J c n ((d,v)::σ) M L (wpList P ops Q rest)):J c n σ M L (wpList P ops Q (⟨some d,.extract x i,ty,pos,aft,none⟩::rest)):=by
  simp only[Prod.mk.injEq]at h
  exact aB (e_ h.1 h.2.1) h.2.2 k
theorem qkNeq {t a:TypeId} {i:IntKind} {p q:Int} (h:(ev σ x,ev σ y,Nat.blt d n.sz)=(some (.int i p),some (.int i q),true)) (k:J c n ((d,.bool (decide (p≠q)))::σ) M L (wpList P ops Q rest)):J c n σ M L (wpList P ops Q (⟨some d,.binOp .neq t x y a,ty,pos,aft,none⟩::rest)):=by
  simp only[Prod.mk.injEq]at h
  exact aB (FK h.1 h.2.1) h.2.2 k
theorem qkAnd {t a:TypeId} {i:IntKind} {p q:Int} (h:(ev σ x,ev σ y,Nat.blt d n.sz)=(some (.int i p),some (.int i q),true)) (k:J c n ((d,.int i (dC i p q))::σ) M L (wpList P ops Q rest)):J c n σ M L (wpList P ops Q (⟨some d,.binOp .and t x y a,ty,pos,aft,none⟩::rest)):=by
  simp only[Prod.mk.injEq]at h
  exact aB (Lu h.1 h.2.1) h.2.2 k
theorem qkLen [cA P] {a:Type} {r:eH a} {T E:TypeId} {e f:Nat} {z:Value} {xs:List a} (b:aC M L (Sl r v xs)) (h:(ev σ x,cA.tab P T,Nat.blt d n.sz)=(some v,some ⟨.slice E,e,f,z⟩,true)) (k:J c n ((d,.int .i64 xs.length)::σ) M L (wpList P ops Q rest)):J c n σ M L (wpList P ops Q (⟨some d,.call ⟨.builtin .len,#[x],#[T]⟩,ty,pos,aft,none⟩::rest)):=by
  simp only[Prod.mk.injEq]at h
  exact aB (fM h.1 b h.2.1) h.2.2 k
variable {l:List Oper} {m:List Nat} {k0:Nat} {H Bs:List (Nat×List aX×List aX)} {rs:List Nat}
theorem jqN {i a:Nat} {b:Op} (f:l[i]? = some ⟨some a,b,ty,pos,aft,none⟩) (k:Y P c n σ [] [] ⟨some a,b,ty,pos,aft,none⟩ v)
    (h:JR c n ((a,v)::σ) M L H ((i,[],[])::Bs) (RW P l.toArray Q (before m) (cV l) k0 rs))
    (g:Nat.blt i k0=true:=by exact rfl) (j:dX b=false:=by exact rfl) (e:Nat.blt a n.sz=true:=by exact rfl):JR c n σ M L H Bs (RW P l.toArray Q (before m) (cV l) k0 (i::rs)):=bD f aS.nil xT.nil k hkN h g j e
end
end Go.Sx
end
section
namespace Go.Sx
section
abbrev aQ:=List Int
abbrev dQ:=List (Int×Int)
abbrev a_:=List aQ
abbrev cJ:=List dQ
abbrev qC:=ByteArray×(List (ByteArray×Int×Int×Int×Int×Int))×(List (ByteArray×(Value×dQ)×(Value×List (Int×(Value×dQ)))))
abbrev Fz:=(ByteArray×(List (ByteArray×Int×Int×Int×Int×Int))×(List (ByteArray×(Value×dQ)×(Value×List (Int×(Value×dQ))))))×((ByteArray×(List (ByteArray×Int×Int×Int×Int×Int))×(List (ByteArray×(Value×dQ)×(Value×List (Int×(Value×dQ))))))×(aQ×cJ)×Int×a_)×cJ
abbrev KP:=((ByteArray×(List (ByteArray×Int×Int×Int×Int×Int))×(List (ByteArray×(Value×dQ)×(Value×List (Int×(Value×dQ))))))×(aQ×cJ)×Int×a_)×a_×Int×dQ
abbrev Bc:=((aQ×aQ×a_×(Int×Int×Int×Int×Int))×Int)
abbrev cT:=aQ×cJ
abbrev jT:=List (Value×dQ)
abbrev Ro:=(ByteArray×(List (ByteArray×Int×Int×Int×Int×Int))×(List (ByteArray×(Value×dQ)×(Value×List (Int×(Value×dQ))))))×(aQ×cJ)×Int×a_
abbrev oV:=List (Value×aQ)
abbrev Az:=Int×aQ×aQ×aQ×Bool×Bool
abbrev WQ:=(((ByteArray×(List (ByteArray×Int×Int×Int×Int×Int))×(List (ByteArray×(Value×dQ)×(Value×List (Int×(Value×dQ))))))×(aQ×cJ)×Int×a_)×a_×Int×dQ)
abbrev dO:=List Value
abbrev eR:=(Int×Int)
abbrev Cc:=ByteArray×Int×Int×Int×Int×Int
abbrev Ga:=List (ByteArray×Int×Int×Int×Int×Int)
abbrev eS:=Int×Int
abbrev rB:=((aQ×cJ))
abbrev gJ:=List Nat
abbrev Gc:=Int×(List ((Int×Int)×Int))
abbrev Dg:=Int×Int×Int×Int×Int
abbrev Bm:=((aQ×cJ)×Int)
abbrev Uz:=(ByteArray×List (ByteArray×Int×Int×Int×Int×Int)×List (dQ×List (Int×dQ)))
abbrev Ip:=((Int×Int)×(Int×Int))×Bool
abbrev MN:=aQ×aQ×a_×(Int×Int×Int×Int×Int)
abbrev Jw:=(Int×(List ((Int×Int)×Int)))
abbrev Cd:=Value×List Value
abbrev Jx:=List (dQ×List (Int×dQ))
abbrev PT:=Int×Int×Int×Int×Int×Int×aQ×aQ×a_
abbrev Iq:=Value×Value×List Value
abbrev yY:=Int×a_
end
section
abbrev eG:Value:=Value.slice none 0 0
abbrev DK:List Value:=[eG,eG,eG,vI (0:Int),vI (0:Int),vI (0:Int),vI (0:Int),vU (0:Int)]
abbrev Xr:List Value:=[vI (0:Int),vI (0:Int),vI (0:Int),vI (0:Int),vU (0:Int)]
abbrev Zk:List Value:=[Value.pointer none,eG,vI (0:Int),vU (0:Int),Value.nilFunc]
abbrev Oz:List Value:=[vI (0:Int),vI (0:Int)]
abbrev vD4:List Value:=[vU (0:Int),vI (0:Int),vI (0:Int),vI (0:Int),vB (false),eG]
abbrev vD5:List Value:=[vI (0:Int),vI (0:Int),vI (0:Int),vI (0:Int)]
abbrev vD6:List Value:=[vS (ByteArray.mk #[]),vI (0:Int),vI (0:Int),vI (0:Int),vI (0:Int),vI (0:Int)]
end
end Go.Sx
end
section
namespace Go.Proofs.YtpenklncfhiloaaGreatDoor
open Go.Sx
section
def US:aQ:=[0,1,1,2,1,2,2,3,1,2,2,3,2,3,3,4,1,2,2,3,2,3,3,4,2,3,3,4,3,4,4,5,1,2,2,3,2,3,3,4,2,3,3,4,3,4,4,5,2,3,3,4,3,4,4,5,3,4,4,5,4,5,5,6,1,2,2,3,2,3,3,4,2,3,3,4,3,4,4,5,2,3,3,4,3,4,4,5,3,4,4,5,4,5,5,6,2,3,3,4,3,4,4,5,3,4,4,5,4,5,5,6,3,4,4,5,4,5,5,6,4,5,5,6,5,6,6,7,1,2,2,3,2,3,3,4,2,3,3,4,3,4,4,5,2,3,3,4,3,4,4,5,3,4,4,5,4,5,5,6,2,3,3,4,3,4,4,5,3,4,4,5,4,5,5,6,3,4,4,5,4,5,5,6,4,5,5,6,5,6,6,7,2,3,3,4,3,4,4,5,3,4,4,5,4,5,5,6,3,4,4,5,4,5,5,6,4,5,5,6,5,6,6,7,3,4,4,5,4,5,5,6,4,5,5,6,5,6,6,7,4,5,5,6,5,6,6,7,5,6,6,7,6,7,7,8]
theorem Kf:Hm (ByteArray.mk #[0,1,1,2,1,2,2,3,1,2,2,3,2,3,3,4,1,2,2,3,2,3,3,4,2,3,3,4,3,4,4,5,1,2,2,3,2,3,3,4,2,3,3,4,3,4,4,5,2,3,3,4,3,4,4,5,3,4,4,5,4,5,5,6,1,2,2,3,2,3,3,4,2,3,3,4,3,4,4,5,2,3,3,4,3,4,4,5,3,4,4,5,4,5,5,6,2,3,3,4,3,4,4,5,3,4,4,5,4,5,5,6,3,4,4,5,4,5,5,6,4,5,5,6,5,6,6,7,1,2,2,3,2,3,3,4,2,3,3,4,3,4,4,5,2,3,3,4,3,4,4,5,3,4,4,5,4,5,5,6,2,3,3,4,3,4,4,5,3,4,4,5,4,5,5,6,3,4,4,5,4,5,5,6,4,5,5,6,5,6,6,7,2,3,3,4,3,4,4,5,3,4,4,5,4,5,5,6,3,4,4,5,4,5,5,6,4,5,5,6,5,6,6,7,3,4,4,5,4,5,5,6,4,5,5,6,5,6,6,7,4,5,5,6,5,6,6,7,5,6,6,7,6,7,7,8])=US:=by kernel_rfl
def uB:aQ:=[0,1,28,2,29,14,24,3,30,22,20,15,25,17,4,8,31,27,13,23,21,19,16,7,26,12,18,6,11,5,10,9]
theorem _root_.Go.Sx.Y.bld5 {P:Program} {c:tP} {n:Sz} {σ:Fr} {M L:List aX} {d:Option Tmp} {ty:TypeId} {pos:String} {aft:Array Edge} {g:Option (Nat×Bool)} {T:TypeId} {a b e f h:Nat} {o p q s t:Operand} {i j k l m:Value} {r:Value} (u:ev σ o=some i) (v:ev σ p=some j) (x:ev σ q=some k) (y:ev σ s=some l) (z:ev σ t=some m) (A:∀w,(Instr.build T ([(a,i),(b,j),(e,k),(f,l),(h,m)]:List (Nat×Value)).toArray).run P w = .ok r w):Y P c n σ M L ⟨d,.build T #[(a,o),(b,p),(e,q),(f,s),(h,t)],ty,pos,aft,g⟩ r:=
 vQ (ps:=[(a,o),(b,p),(e,q),(f,s),(h,t)]) (vs:=[(a,i),(b,j),(e,k),(f,l),(h,m)]) (by simp[u,v,x,y,z]) A
theorem _root_.Go.Sx.Y.bld6 {P:Program} {c:tP} {n:Sz} {σ:Fr} {M L:List aX} {d:Option Tmp} {ty:TypeId} {pos:String} {aft:Array Edge} {g:Option (Nat×Bool)} {T:TypeId} {a b e f h i:Nat} {q s t u v x:Operand} {j k l m o p:Value} {r:Value} (y:ev σ q=some j) (z:ev σ s=some k) (A:ev σ t=some l) (B:ev σ u=some m) (C:ev σ v=some o) (D:ev σ x=some p) (E:∀w,(Instr.build T ([(a,j),(b,k),(e,l),(f,m),(h,o),(i,p)]:List (Nat×Value)).toArray).run P w = .ok r w):Y P c n σ M L ⟨d,.build T #[(a,q),(b,s),(e,t),(f,u),(h,v),(i,x)],ty,pos,aft,g⟩ r:=
 vQ (ps:=[(a,q),(b,s),(e,t),(f,u),(h,v),(i,x)]) (vs:=[(a,j),(b,k),(e,l),(f,m),(h,o),(i,p)]) (by simp[y,z,A,B,C,D]) E
abbrev ESt:c_ ByteArray:=⟨1,Nat.one_pos,fun x=>[.string x],fun _=>rfl⟩
abbrev RSt:eH ByteArray:=⟨1,Nat.one_pos,fun _ _ cs x=>cs=[.string x],fun h=>by simp[h],fun h _=>h⟩
theorem FSt:ESt.Fits RSt:=⟨rfl,fun h=>h,rfl,fun _=>rfl⟩
abbrev cE:c_ Int:=c_.int .i64
abbrev bL:eH Int:=eH.int .i64
theorem cW:cE.Fits bL:=DL .i64
theorem fE:bL.Cell 0 (fun x=> .int .i64 x):=DR .i64
abbrev rW:c_ (ByteArray×Int×Int×Int×Int×Int):=c_.pair ESt (c_.pair cE (c_.pair cE (c_.pair cE (c_.pair cE (cE)))))
abbrev aJ:eH (ByteArray×Int×Int×Int×Int×Int):=eH.pair RSt (eH.pair bL (eH.pair bL (eH.pair bL (eH.pair bL (bL)))))
theorem rX:rW.Fits aJ:=nH FSt (nH cW (nH cW (nH cW (nH cW (cW)))))
theorem mC:aJ.Cell 1 (fun x=> .int .i64 x.2.1):=cO (nW (fE))
theorem Bn:aJ.Cell 2 (fun x=> .int .i64 x.2.2.1):=cO (cO (nW (fE)))
theorem Bo:aJ.Cell 3 (fun x=> .int .i64 x.2.2.2.1):=cO (cO (cO (nW (fE))))
theorem Bp:aJ.Cell 4 (fun x=> .int .i64 x.2.2.2.2.1):=cO (cO (cO (cO (nW (fE)))))
theorem Bq:aJ.Cell 5 (fun x=> .int .i64 x.2.2.2.2.2):=cO (cO (cO (cO (cO (fE)))))
abbrev bH:c_ eR:=c_.pair cE (cE)
abbrev aW:eH eR:=eH.pair bL (bL)
theorem aU:bH.Fits aW:=nH cW (cW)
theorem vN:aW.Cell 0 (fun x=> .int .i64 x.1):=nW (fE)
theorem Nt:aW.Cell 1 (fun x=> .int .i64 x.2):=cO (fE)
abbrev pU:eH (Int×(Value×dQ)):=eH.pair bL ((eH.sl aW))
theorem Iy:pU.All 2 (fun x=>[Value.int .i64 (x.1),x.2.1]):=(JU (Nv cW) (Nw aW))
theorem Be:pU.Deep aW (fun x=>x.2):=Cj (Bz aW)
abbrev aF:eH (ByteArray×(Value×dQ)×(Value×List (Int×(Value×dQ)))):=eH.pair RSt (eH.pair (eH.sl aW) ((eH.sl pU)))
theorem xQ:aF.Cell 1 (fun x=>x.2.1.1):=cO (nW (eH.sl_cell aW))
theorem xS:aF.Deep aW (fun x=>x.2.1):=Cj (Ql (Bz aW))
theorem xR:aF.Cell 2 (fun x=>x.2.2.1):=cO (cO (eH.sl_cell pU))
theorem fH:aF.Deep pU (fun x=>x.2.2):=Cj (Cj (Bz pU))
abbrev nQ:c_ Int:=c_.int .u32
abbrev wV:eH Int:=eH.int .u32
theorem jP:nQ.Fits wV:=DL .u32
theorem AH:wV.Cell 0 (fun x=> .int .u32 x):=DR .u32
abbrev ZJ:c_ Bool:=c_.bool
abbrev EFn:c_ Nat:=c_.fn
abbrev RFn:eH Nat:=eH.fn
theorem FFn:EFn.Fits RFn:=KX
abbrev Gq:c_ (Int×Nat):=c_.pair cE (EFn)
abbrev Vh:eH (Int×Nat):=eH.pair bL (RFn)
theorem zB:Gq.Fits Vh:=nH cW (FFn)
abbrev EK:c_ Int:=c_.int .u8
def MS (x:Int):Value:=Value.int .i64 (x)
def mB (x:eS):Value:=Value.agg #[Value.int .i64 (x.1),Value.int .i64 (x.2)]
theorem Wr (x y:eS) (m:Nat) (w:World):(Op.equalIn (m+2) 79 (.agg #[.int .i64 x.1,.int .i64 x.2]) (.agg #[.int .i64 y.1,.int .i64 y.2])).run Tryz.prog w = .ok (decide (x=y)) w:=by
 have c:∀a b:Int,(Op.equalIn (m+1) 3 (.int .i64 a) (.int .i64 b)).run Tryz.prog w = .ok (a==b) w:=by
  intro a b
  simp[Op.equalIn]
 unfold Op.equalIn
 simp[show List.range' 0 2=[0,1]from rfl,part,isAgg,c]
 obtain⟨d,e⟩:=x
 obtain⟨f,g⟩:=y
 by_cases h:d=f<;>by_cases i:e=g<;>simp[h,i,c]
theorem VT (b:Bool) (k:eS) (w:World):(Instr.checkKey b 10000 79 (mB k)).run Tryz.prog w = .ok () w:=by
 have a:∀m:Nat,(Instr.checkKey b (m+2) 79 (mB k)).run Tryz.prog w = .ok () w:=by
  intro m
  simp[Instr.checkKey,mB,part,isAgg,show List.range' 0 2=[0,1]from rfl]
 exact a 9998
theorem NX:GW Tryz.prog 79 mB:=Np Tryz.underlying79 VT (fun _ _=>rfl) (fun a b w=>Wr a b 9998 w) (fun k=>by
 have c:∀m:Nat,Instr.sameBits (m+2) (mB k) (mB k)=true:=fun m=>by simp[Instr.sameBits,mB]
 exact c 9998)
theorem pK (b:Value) (c:one b=true) (a:Array Value) (h:a.size=1*1):Instr.fill (fun i=>some (i*1,1)) a [(0,b)]=some [b].toArray:=by
 obtain⟨l⟩:=a
 match l,h with
 | [z0],_=>simp[Instr.fill,cY c]
theorem uI (b c:Value) (a:Array Value) (h:a.size=1*2):Instr.fill (fun i=>some (i*2,2)) a [(0,.agg #[b,c])]=some [b,c].toArray:=by
 obtain⟨l⟩:=a
 match l,h with
 | [z0,z1],_=>simp[Instr.fill,Value.cells]
theorem Ts (b c d e f g:Value) (a:Array Value) (h:a.size=1*6):Instr.fill (fun i=>some (i*6,6)) a [(0,.agg #[b,c,d,e,f,g])]=some [b,c,d,e,f,g].toArray:=by
 obtain⟨l⟩:=a
 match l,h with
 | [z0,z1,z2,z3,z4,z5],_=>simp[Instr.fill,Value.cells]
theorem Tt (b c:Value) (d:one b=true) (e:one c=true) (a:Array Value) (h:a.size=2*1):Instr.fill (fun i=>some (i*1,1)) a [(0,b),(1,c)]=some [b,c].toArray:=by
 obtain⟨l⟩:=a
 match l,h with
 | [z0,z1],_=>simp[Instr.fill,cY d,cY e]
theorem Tu (b c d e f g:Value) (a:Array Value) (h:a.size=3*2):Instr.fill (fun i=>some (i*2,2)) a [(0,.agg #[b,c]),(1,.agg #[d,e]),(2,.agg #[f,g])]=some [b,c,d,e,f,g].toArray:=by
 obtain⟨l⟩:=a
 match l,h with
 | [z0,z1,z2,z3,z4,z5],_=>simp[Instr.fill,Value.cells]
end
section
def wS (p0:Int) (a:Bool):Option (Int):=
 if a=true then(some (-1:Int))else(if p0<=(17:Int)then(some (0:Int))else(if p0<=(29:Int)then(some (1:Int))else(if p0<=(42:Int)then(some (2:Int))else(some (3:Int)))))
def uR (U:Nat) (p0:Int):Option (Int):=
 if p0<(1:Int)then(wS p0 (true))else(wS p0 (decide ((43:Int)<p0)))
theorem VD:aO Tryz.prog 154:=Tryz.call154
theorem KN (U:Nat) {p0:Int} (r:Int) (h:uR U p0=some r):
  aV Tryz.prog 154 #[vI (p0)] [] (fun x:Unit=>vI (r)) (fun x l=>l) (fun _ l=>l):=by
 refine aV.of Tryz.func154 rfl Tryz.ntmps154 rfl fun c=>?_
 refine sqR<|qkAsg rfl<|dtN<|aH<|aR<|aH<|midU (fun a2=>wS p0 a2=some r) (fun a2 b3=>[(0,vI (p0)),(3,vB (a2))]) (fun a2 b3=>[]) ?_ ?_
 ·refine aM<|qkMove rfl<|qkLss rfl<|qkMove rfl ?_
  refine AS h rfl (fun _ h=>?_) fun _ h=>?_
  ·refine gdSkip rfl<|gdSkip rfl<|qkPkT rfl<|qkAsg rfl<|dtN ?_
   exact iQ (true) () h SF rfl
  refine gyMove rfl<|aL rfl (wX rfl rfl) rfl<|qkPkF rfl<|qkAsg rfl<|dtN ?_
  exact iQ (decide ((43:Int)<p0)) () h SF rfl
 intro a2 b3 h
 refine zQ h rfl (fun _ h=>?_) fun _ h=>?_
 ·refine sqR<|qkAsg rfl<|dtN<|aN<|bT<|aI ?_
  cases h
  exact lD rfl
 refine sqR<|qkMove rfl<|aB (Bg rfl rfl) rfl<|qkAsg rfl<|dtN ?_
 refine eZ h rfl (fun h=>?_) fun h=>?_
 ·refine sqR<|qkAsg rfl<|dtN<|aN<|bT<|aI ?_
  cases h
  exact lD rfl
 refine sqR<|qkMove rfl<|aB (Bg rfl rfl) rfl<|qkAsg rfl<|dtN ?_
 refine eZ h rfl (fun h=>?_) fun h=>?_
 ·refine sqR<|qkAsg rfl<|dtN<|aN<|bT<|aI ?_
  cases h
  exact lD rfl
 refine sqR<|qkMove rfl<|aB (Bg rfl rfl) rfl<|qkAsg rfl<|dtN ?_
 refine eZ h rfl (fun h=>?_) fun h=>?_
 ·refine sqR<|qkAsg rfl<|dtN<|aN<|bT<|aI ?_
  cases h
  exact lD rfl
 refine eJ<|inT<|sqR<|qkAsg rfl<|dtN<|aN ?_
 cases h
 exact lD rfl
end
section
def Cb  (a:Unit):Option (Int):=
 some (-1:Int)
def kB (U:Nat) (p0:dQ) (a:eS) (c:eR->Option (Int)):Option (Int):=
 if a.1<(List.length p0:Int)then(ck (0<=a.1∧a.1<(List.length p0:Int)) (Option.bind (uR U ((at' p0 a.1).1)) fun b=>(if b<(0:Int)then(some (-1:Int))else(if(wI .i64 (a.2+(wI .i64 (b - (1:Int)))))=(0:Int)then(some (wI .i64 (a.1+(1:Int))))else(c ((wI .i64 (a.1+(1:Int))),(wI .i64 (a.2+(wI .i64 (b - (1:Int)))))))))))else(Cb  (()))
def zK (U:Nat) (p0:dQ) (p1:Int) (a:Bool):Option (Int):=
 if a=true then(some (-1:Int))else(bM (kB U p0) U (p1,(1:Int)))
def AX (U:Nat) (p0:dQ) (p1:Int):Option (Int):=
 if p1<(0:Int)then(zK U p0 p1 (true))else(zK U p0 p1 (decide ((List.length p0:Int)<=p1)))
theorem VC:aO Tryz.prog 141:=Tryz.call141
theorem Ot (U:Nat) {p0:dQ} {p1:Int} (v0:Value) (r:Int) (h:AX U p0 p1=some r):
  aV Tryz.prog 141 #[v0,vI (p1)] [Sl aW v0 p0] (fun x:Unit=>vI (r)) (fun x l=>l) (fun _ l=>l):=by
 refine aV.of Tryz.func141 rfl Tryz.ntmps141 rfl fun c=>?_
 refine sqR<|qkAsg rfl<|dtN<|aH<|aH<|midU (fun a2=>zK U p0 p1 a2=some r) (fun a2 b3=>[(0,v0),(1,vI (p1)),(14,vB (a2))]) (fun a2 b3=>[]) ?_ ?_
 ·refine aM<|qkMove rfl<|qkLss rfl<|qkMove rfl ?_
  refine AS h rfl (fun _ h=>?_) fun _ h=>?_
  ·refine gdSkip rfl<|gdSkip rfl<|gdSkip rfl<|gdSkip rfl<|qkPkT rfl<|dtN ?_
   exact iQ (true) () h SF rfl
  refine gyMove rfl<|gyMove rfl<|aL rfl (fM rfl (aC.fact 0 rfl) rfl) rfl<|aL rfl (Bf rfl rfl) rfl<|qkPkF rfl<|dtN ?_
  exact iQ (decide ((List.length p0:Int)<=p1)) () h SF rfl
 intro a2 b3 h
 refine zQ h rfl (fun _ h=>?_) fun _ h=>?_
 ·refine sqR<|qkAsg rfl<|dtN<|aN<|aI ?_
  cases h
  exact lD rfl
 refine cL<|aH<|midU (fun a5=>Cb  a5=some r) (fun a5 b6=>[]) (fun a5 b6=>[]) ?_ ?_
 ·refine sqR<|qkAsg rfl<|dtN<|aR<|loopL (kB U p0) (fun a10 b11=>[(0,v0),(1,vI (a10.1)),(5,vI (a10.2))]) (fun a10 b11=>[]) (p1,(1:Int)) () h SF (aS.refl _) ?_
  intro k12 a10 b11 h
  refine aH<|sqR<|qkMove rfl<|qkMove rfl<|qkLen (aC.fact 0 rfl) rfl<|qkLss rfl<|dtN ?_
  refine eZ h rfl (fun h=>?_) fun h=>?_
  ·refine cL<|aH<|aR<|sqR<|qkMove rfl<|qkMove rfl<|ckE h fun j14 h=>aB (bG rfl rfl (aC.fact 0 rfl) rfl rfl j14) rfl<|aB (jJ rfl rfl rfl rfl rfl) rfl<|aB (mD rfl (aC.fact 0 rfl) rfl rfl rfl vN j14) rfl<|bnE h fun r15 w16 h=>aE (aG.callQ VD (KN U  r15 w16) rfl .nil) rfl fun x17=>qkAsg rfl<|dtN<|aH<|sqR<|qkMove rfl<|qkLss rfl<|dtN ?_
   refine eZ h rfl (fun h=>?_) fun h=>?_
   ·refine sqR<|qkAsg rfl<|dtN<|aN<|aI<|bT<|aI<|aI<|bT<|aI ?_
    cases h
    exact lD rfl
   refine cL<|sqR<|qkMove rfl<|qkMove rfl<|aB (pD rfl rfl) rfl<|qkAdd rfl<|qkAsg rfl<|dtN<|sqR<|qkMove rfl<|qkEql rfl<|dtN ?_
   refine eZ h rfl (fun h=>?_) fun h=>?_
   ·refine sqR<|qkMove rfl<|qkAdd rfl<|qkAsg rfl<|dtN<|aN<|bT<|aI<|aI<|bT<|aI ?_
    cases h
    exact lD rfl
   refine eJ<|inT<|aM<|qkMove rfl<|qkAdd rfl<|qkAsg rfl<|dtN ?_
   exact Ah ((wI .i64 (a10.1+(1:Int))),(wI .i64 (a10.2+(wI .i64 (r15 - (1:Int)))))) () h SF rfl
  refine gH ?_
  exact iQ () (()) h SF rfl
 intro a5 b6 h
 unfold Cb at h
 refine sqR<|qkAsg rfl<|dtN<|aN ?_
 cases h
 exact lD rfl
end
section
def gS (U:Nat) (p0:Bool):Option (Int):=
 if p0=true then(some (1:Int))else(some (0:Int))
theorem wE:aO Tryz.prog 172:=Tryz.call172
theorem jS (U:Nat) {p0:Bool} (r:Int) (h:gS U p0=some r):
  aV Tryz.prog 172 #[vB (p0)] [] (fun x:Unit=>vI (r)) (fun x l=>l) (fun _ l=>l):=by
 refine aV.of Tryz.func172 rfl Tryz.ntmps172 rfl fun c=>?_
 refine sqR<|qkAsg rfl<|dtN<|aH<|sqR<|qkMove rfl<|dtN ?_
 refine zQ h rfl (fun _ h=>?_) fun _ h=>?_
 ·refine sqR<|qkAsg rfl<|dtN<|aN<|aI ?_
  cases h
  exact lD rfl
 refine cL<|sqR<|qkAsg rfl<|dtN<|aN ?_
 cases h
 exact lD rfl
end
section
def qV (U:Nat) (p0:Ro) (p1:Int) (p2:Int) (p3:Int):Option (Int):=
 if p1=(6:Int)then(some (List.length p0.2.1.1:Int))else(if p1=(7:Int)then(some (p0.2.2.1))else(if p1=(8:Int)then(ck (0<=p2∧p2<(List.length p0.2.1.1:Int)) (some (at' p0.2.1.1 p2)))else(if p1=(9:Int)then(ck (0<=p2∧p2<(List.length p0.2.1.2:Int)) (some (List.length (at' p0.2.1.2 p2):Int)))else(if p1=(10:Int)then(Option.bind (gS U (decide (p2=(0:Int)))) fun b=>(some (b)))else(if p1=(11:Int)then(some (p3))else(ck (0<=p2∧p2<(List.length p0.2.1.2:Int)) (ck (0<=p3∧p3<(List.length (at' p0.2.1.2 p2):Int)) (if p1=(13:Int)then(ck (0<=((at' (at' p0.2.1.2 p2) p3).1)∧((at' (at' p0.2.1.2 p2) p3).1)<(List.length p0.2.1.1:Int)) (some (at' p0.2.1.1 ((at' (at' p0.2.1.2 p2) p3).1))))else(if p1=(14:Int)then(ck (0<=((at' (at' p0.2.1.2 p2) p3).1)∧((at' (at' p0.2.1.2 p2) p3).1)<(List.length p0.2.1.2:Int)) (some (List.length (at' p0.2.1.2 ((at' (at' p0.2.1.2 p2) p3).1)):Int)))else(if p1=(15:Int)then(Option.bind (gS U (decide (((at' (at' p0.2.1.2 p2) p3).1)=(0:Int)))) fun a=>(some (a)))else(if p1=(16:Int)then(some ((at' (at' p0.2.1.2 p2) p3).2))else(ck (0<=p2∧p2<(List.length p0.2.2.2:Int)) (ck (0<=p3∧p3<(List.length (at' p0.2.2.2 p2):Int)) (some (at' (at' p0.2.2.2 p2) p3)))))))))))))))
theorem VI:aO Tryz.prog 171:=Tryz.call171
theorem BS (U:Nat) {p0:Ro} {p1:Int} {p2:Int} {p3:Int} (e:Nat)  (o:Value)  (p:Value)  (q:Value)  (s:Value)  (B:jT)  (t:Value)  (C:oV) (r:Int) (h:qV U p0 p1 p2 p3=some r):
  aV Tryz.prog 171 #[vP e,vI (p1),vI (p2),vI (p3)] [bS e [vS (p0.1.1),o,p,q,s,vI (p0.2.2.1),t] 176,Sl aJ o p0.1.2.1,Sl aF p p0.1.2.2,Sl bL q p0.2.1.1,S2 aW s B p0.2.1.2,S2 bL t C p0.2.2.2] (fun x:Unit=>vI (r)) (fun x l=>l) (fun _ l=>l):=by
 refine aV.of Tryz.func171 rfl Tryz.ntmps171 rfl fun c=>?_
 refine sqR<|qkAsg rfl<|dtN<|aH<|sqR<|qkMove rfl<|dtN<|aR<|sqR<|qkEql rfl<|qkAsg rfl<|dtN ?_
 refine eZ h rfl (fun h=>?_) fun h=>?_
 ·refine sqR<|qkMove rfl<|aB (bU rfl) rfl<|qkFld rfl<|qkFld rfl<|aB (cZ rfl (aC.fact 0 rfl) rfl rfl rfl) rfl<|qkLen (aC.fact 3 rfl) rfl<|qkAsg rfl<|dtN<|aN<|bT<|aI ?_
  cases h
  exact lD rfl
 refine sqR<|qkEql rfl<|qkAsg rfl<|dtN ?_
 refine eZ h rfl (fun h=>?_) fun h=>?_
 ·refine sqR<|qkMove rfl<|aB (bU rfl) rfl<|qkFld rfl<|aB (cZ rfl (aC.fact 0 rfl) rfl rfl rfl) rfl<|qkAsg rfl<|dtN<|aN<|bT<|aI ?_
  cases h
  exact lD rfl
 refine sqR<|qkEql rfl<|qkAsg rfl<|dtN ?_
 refine eZ h rfl (fun h=>?_) fun h=>?_
 ·refine sqR<|qkMove rfl<|aB (bU rfl) rfl<|qkFld rfl<|qkFld rfl<|aB (cZ rfl (aC.fact 0 rfl) rfl rfl rfl) rfl<|qkMove rfl<|ckE h fun n h=>aB (bG rfl rfl (aC.fact 3 rfl) rfl rfl n) rfl<|aB (cK rfl (aC.fact 3 rfl) rfl rfl rfl fE n) rfl<|qkAsg rfl<|dtN<|aN<|bT<|aI ?_
  cases h
  exact lD rfl
 refine sqR<|qkEql rfl<|qkAsg rfl<|dtN ?_
 refine eZ h rfl (fun h=>?_) fun h=>?_
 ·refine sqR<|qkMove rfl<|aB (bU rfl) rfl<|qkFld rfl<|qkFld rfl<|aB (cZ rfl (aC.fact 0 rfl) rfl rfl rfl) rfl<|qkMove rfl<|ckE h fun j h=>aB (cG rfl rfl (aC.fact 4 rfl) rfl rfl j) rfl<|aB (cI rfl (aC.fact 4 rfl) rfl rfl j) rfl<|aB (fM rfl (aC.el (aC.fact 4 rfl) j.1 j.2) rfl) rfl<|qkAsg rfl<|dtN<|aN<|bT<|aI ?_
  cases h
  exact lD rfl
 refine sqR<|qkEql rfl<|qkAsg rfl<|dtN ?_
 refine eZ h rfl (fun h=>?_) fun h=>?_
 ·refine sqR<|qkMove rfl<|qkEql rfl<|bnE h fun v w h=>aE (aG.callQ wE (jS U  v w) rfl .nil) rfl fun y=>qkAsg rfl<|dtN<|aN<|bT<|aI ?_
  cases h
  exact lD rfl
 refine sqR<|qkEql rfl<|qkAsg rfl<|dtN ?_
 refine eZ h rfl (fun h=>?_) fun h=>?_
 ·refine sqR<|qkMove rfl<|qkAsg rfl<|dtN<|aN<|bT<|aI ?_
  cases h
  exact lD rfl
 refine eJ<|inT<|sqR<|qkMove rfl<|aB (bU rfl) rfl<|qkFld rfl<|qkFld rfl<|aB (cZ rfl (aC.fact 0 rfl) rfl rfl rfl) rfl<|qkMove rfl<|ckE h fun a h=>aB (cG rfl rfl (aC.fact 4 rfl) rfl rfl a) rfl<|aB (cI rfl (aC.fact 4 rfl) rfl rfl a) rfl<|qkMove rfl<|ckE h fun f h=>aB (bG rfl rfl (aC.el (aC.fact 4 rfl) a.1 a.2) rfl rfl f) rfl<|aB (gV (cs:=[vI ((at' (at' p0.2.1.2 p2) p3).1),vI ((at' (at' p0.2.1.2 p2) p3).2)]) rfl (aC.el (aC.fact 4 rfl) a.1 a.2) aU rfl rfl rfl rfl f) rfl<|aE (aG.alloc (cs:=Oz) rfl rfl) rfl fun u=>aY 0 (vs:=[vI ((at' (at' p0.2.1.2 p2) p3).1),vI ((at' (at' p0.2.1.2 p2) p3).2)]) rfl rfl rfl rfl rfl rfl<|dtN<|aH<|sqR<|qkMove rfl<|dtN<|aR<|sqR<|qkEql rfl<|qkAsg rfl<|dtN ?_
 refine eZ h rfl (fun h=>?_) fun h=>?_
 ·refine aH ?_
  refine JR.start [0,1,3,7,15,0,32,127,255,511] 7 mixedOrders (by decide +kernel) ?_
  refine JR.open (by exact rfl) ?_
  refine jkMove rfl<|jqN rfl (bU rfl)<|jkFld rfl<|jkFld rfl<|bD rfl .nil (lA 0 rfl) (cZ rfl (aC.fact 0 rfl) rfl rfl rfl) aK.z<|jkFld rfl<|jkLd 0 rfl<|bF 7 rfl rfl<|ckE h fun g h=>aB (bG rfl rfl (aC.fact 3 rfl) rfl rfl g) rfl<|aB (cK rfl (aC.fact 3 rfl) rfl rfl rfl fE g) rfl<|qkAsg rfl<|dtN<|aN<|bT<|aI ?_
  cases h
  exact vH rfl
 refine sqR<|qkEql rfl<|qkAsg rfl<|dtN ?_
 refine eZ h rfl (fun h=>?_) fun h=>?_
 ·refine aH ?_
  refine JR.start [0,1,3,7,15,0,32,127,255,511,1023] 7 mixedOrders (by decide +kernel) ?_
  refine JR.open (by exact rfl) ?_
  refine jkMove rfl<|jqN rfl (bU rfl)<|jkFld rfl<|jkFld rfl<|bD rfl .nil (lA 0 rfl) (cZ rfl (aC.fact 0 rfl) rfl rfl rfl) aK.z<|jkFld rfl<|jkLd 0 rfl<|bF 7 rfl rfl<|ckE h fun d h=>aB (cG rfl rfl (aC.fact 4 rfl) rfl rfl d) rfl<|aB (cI rfl (aC.fact 4 rfl) rfl rfl d) rfl<|aB (fM rfl (aC.el (aC.fact 4 rfl) d.1 d.2) rfl) rfl<|qkAsg rfl<|dtN<|aN<|bT<|aI ?_
  cases h
  exact vH rfl
 refine sqR<|qkEql rfl<|qkAsg rfl<|dtN ?_
 refine eZ h rfl (fun h=>?_) fun h=>?_
 ·refine sqR<|qkFld rfl<|qkLd 0 rfl<|qkEql rfl<|bnE h fun k m h=>aE (aG.callQ wE (jS U  k m) rfl .nil) rfl fun A=>qkAsg rfl<|dtN<|aN<|bT<|aI ?_
  cases h
  exact vH rfl
 refine sqR<|qkEql rfl<|qkAsg rfl<|dtN ?_
 refine eZ h rfl (fun h=>?_) fun h=>?_
 ·refine sqR<|qkFld rfl<|qkLd 0 rfl<|qkAsg rfl<|dtN<|aN<|bT<|aI ?_
  cases h
  exact vH rfl
 refine eJ<|inT<|sqR<|qkMove rfl<|aB (bU rfl) rfl<|qkFld rfl<|aB (cZ rfl (aC.fact 0 rfl) rfl rfl rfl) rfl<|qkMove rfl<|ckE h fun b h=>aB (cG rfl rfl (aC.fact 5 rfl) rfl rfl b) rfl<|aB (cI rfl (aC.fact 5 rfl) rfl rfl b) rfl<|qkMove rfl<|ckE h fun i h=>aB (bG rfl rfl (aC.el (aC.fact 5 rfl) b.1 b.2) rfl rfl i) rfl<|aB (cK rfl (aC.el (aC.fact 5 rfl) b.1 b.2) rfl rfl rfl fE i) rfl<|qkAsg rfl<|dtN<|aN ?_
 cases h
 exact vH rfl
end
section
def kQ (U:Nat) (p0:KP) (p1:eS) (p2:Int):Option (Int):=
 if p1.1=(1:Int)then(some (p1.2))else(if p1.1=(2:Int)then(some (1:Int))else(if p1.1=(3:Int)then(some (0:Int))else(if p1.1=(4:Int)then(some (-1:Int))else(if p1.1=(5:Int)then(ck (0<=p0.2.2.1∧p0.2.2.1<(List.length p0.2.1:Int)) (ck (0<=p1.2∧p1.2<(List.length (at' p0.2.1 p0.2.2.1):Int)) (some (at' (at' p0.2.1 p0.2.2.1) p1.2))))else(if p1.1=(12:Int)then(ck (0<=p0.2.2.1∧p0.2.2.1<(List.length p0.1.2.1.2:Int)) (ck (0<=p2∧p2<(List.length (at' p0.1.2.1.2 p0.2.2.1):Int)) (ck (0<=((at' (at' p0.1.2.1.2 p0.2.2.1) p2).1)∧((at' (at' p0.1.2.1.2 p0.2.2.1) p2).1)<(List.length p0.2.1:Int)) (ck (0<=p1.2∧p1.2<(List.length (at' p0.2.1 ((at' (at' p0.1.2.1.2 p0.2.2.1) p2).1)):Int)) (some (at' (at' p0.2.1 ((at' (at' p0.1.2.1.2 p0.2.2.1) p2).1)) p1.2))))))else(Option.bind (qV U ((((p0.1.1.1,p0.1.1.2.1,p0.1.1.2.2)),((p0.1.2.1.1,p0.1.2.1.2)),p0.1.2.2.1,p0.1.2.2.2)) p1.1 p0.2.2.1 p2) fun a=>(some (a))))))))
theorem VE:aO Tryz.prog 162:=Tryz.call162
theorem CO (U:Nat) {p0:KP} {p1:eS} {p2:Int} (f:Nat)  (d:Nat)  (m:Value)  (n:Value)  (o:Value)  (p:Value)  (w:jT)  (q:Value)  (y:oV)  (v:Value)  (t:oV)  (j:Value) (r:Int) (h:kQ U p0 p1 p2=some r):
  aV Tryz.prog 162 #[vP f,Value.agg #[vI (p1.1),vI (p1.2)],vI (p2)] [bS f [vP d,v,vI (p0.2.2.1),j] 226,bS d [vS (p0.1.1.1),m,n,o,p,vI (p0.1.2.2.1),q] 176,Sl aJ m p0.1.1.2.1,Sl aF n p0.1.1.2.2,Sl bL o p0.1.2.1.1,S2 aW p w p0.1.2.1.2,S2 bL q y p0.1.2.2.2,S2 bL v t p0.2.1,Sl aW j p0.2.2.2] (fun x:Unit=>vI (r)) (fun x l=>l) (fun _ l=>l):=by
 refine aV.of Tryz.func162 rfl Tryz.ntmps162 rfl fun c=>?_
 refine sqR<|aE (aG.box (cs:=[vI (p1.1),vI (p1.2)]) rfl rfl) rfl fun B=>qkAsg rfl<|dtN<|aH<|sqR<|qkFld rfl<|qkLd 0 rfl<|dtN<|aR<|sqR<|qkEql rfl<|qkAsg rfl<|dtN ?_
 refine eZ h rfl (fun h=>?_) fun h=>?_
 ·refine sqR<|qkFld rfl<|qkLd 0 rfl<|qkAsg rfl<|dtN<|aN<|bT<|aI ?_
  cases h
  exact vH rfl
 refine sqR<|qkEql rfl<|qkAsg rfl<|dtN ?_
 refine eZ h rfl (fun h=>?_) fun h=>?_
 ·refine sqR<|qkAsg rfl<|dtN<|aN<|bT<|aI ?_
  cases h
  exact vH rfl
 refine sqR<|qkEql rfl<|qkAsg rfl<|dtN ?_
 refine eZ h rfl (fun h=>?_) fun h=>?_
 ·refine sqR<|qkAsg rfl<|dtN<|aN<|bT<|aI ?_
  cases h
  exact vH rfl
 refine sqR<|qkEql rfl<|qkAsg rfl<|dtN ?_
 refine eZ h rfl (fun h=>?_) fun h=>?_
 ·refine sqR<|qkAsg rfl<|dtN<|aN<|bT<|aI ?_
  cases h
  exact vH rfl
 refine sqR<|qkEql rfl<|qkAsg rfl<|dtN ?_
 refine eZ h rfl (fun h=>?_) fun h=>?_
 ·refine aH ?_
  refine JR.start [0,1,3,7,0,16,48,112,255,511,0,1024,4095,8191,16383] 12 mixedOrders (by decide +kernel) ?_
  refine JR.open (by exact rfl) ?_
  refine jkMove rfl<|jqN rfl (bU rfl)<|jkFld rfl<|bD rfl .nil (lA 0 rfl) (cZ rfl (aC.fact 0 rfl) rfl rfl rfl) aK.z<|jkMove rfl<|jqN rfl (bU rfl)<|jkFld rfl<|bD rfl .nil (lA 0 rfl) (cZ rfl (aC.fact 0 rfl) rfl rfl rfl) aK.z<|ckE h fun e h=>bD rfl .nil (lA 7 rfl) (cG rfl rfl (aC.fact 0 rfl) rfl rfl e) aK.z<|bD rfl .nil (lA 7 rfl) (cI rfl (aC.fact 0 rfl) rfl rfl e) aK.z<|jkFld rfl<|jkLd 0 rfl<|bF 12 rfl rfl<|ckE h fun u h=>aB (bG rfl rfl (aC.el (aC.fact 7 rfl) e.1 e.2) rfl rfl u) rfl<|aB (cK rfl (aC.el (aC.fact 7 rfl) e.1 e.2) rfl rfl rfl fE u) rfl<|qkAsg rfl<|dtN<|aN<|bT<|aI ?_
  cases h
  exact vH rfl
 refine sqR<|qkEql rfl<|qkAsg rfl<|dtN ?_
 refine eZ h rfl (fun h=>?_) fun h=>?_
 ·refine aH ?_
  refine JR.start [0,1,3,7,0,16,48,112,240,496,1008,2032,0,4096,12288,28672,65520,131056,0,524272,1048560,2097136,4194303,8388607,0,16777216,67108863,134217727,268435455] 26 mixedOrders (by decide +kernel) ?_
  refine JR.open (by exact rfl) ?_
  refine jkMove rfl<|jqN rfl (bU rfl)<|jkFld rfl<|bD rfl .nil (lA 0 rfl) (cZ rfl (aC.fact 0 rfl) rfl rfl rfl) aK.z<|jkMove rfl<|jqN rfl (bU rfl)<|jkFld rfl<|bD rfl .nil (lA 0 rfl) (cZ rfl (aC.fact 0 rfl) rfl rfl rfl) aK.z<|jqN rfl (bU rfl)<|jkFld rfl<|jkFld rfl<|bD rfl .nil (lA 1 rfl) (cZ rfl (aC.fact 0 rfl) rfl rfl rfl) aK.z<|jkMove rfl<|jqN rfl (bU rfl)<|jkFld rfl<|bD rfl .nil (lA 0 rfl) (cZ rfl (aC.fact 0 rfl) rfl rfl rfl) aK.z<|ckE h fun a h=>bD rfl .nil (lA 5 rfl) (cG rfl rfl (aC.fact 0 rfl) rfl rfl a) aK.z<|bD rfl .nil (lA 5 rfl) (cI rfl (aC.fact 0 rfl) rfl rfl a) aK.z<|jkMove rfl<|ckE h fun g h=>bD rfl .nil (lA 5 rfl) (bG rfl rfl (aC.el (aC.fact 0 rfl) a.1 a.2) rfl rfl g) aK.z<|jqN rfl (jJ rfl rfl rfl rfl rfl)<|bD rfl .nil (lA 5 rfl) (mD rfl (aC.el (aC.fact 0 rfl) a.1 a.2) rfl rfl rfl vN g) aK.z<|ckE h fun b h=>bD rfl .nil (lA 7 rfl) (cG rfl rfl (aC.fact 0 rfl) rfl rfl b) aK.z<|bD rfl .nil (lA 7 rfl) (cI rfl (aC.fact 0 rfl) rfl rfl b) aK.z<|jkFld rfl<|jkLd 0 rfl<|bF 26 rfl rfl<|ckE h fun i h=>aB (bG rfl rfl (aC.el (aC.fact 7 rfl) b.1 b.2) rfl rfl i) rfl<|aB (cK rfl (aC.el (aC.fact 7 rfl) b.1 b.2) rfl rfl rfl fE i) rfl<|qkAsg rfl<|dtN<|aN<|bT<|aI ?_
  cases h
  exact vH rfl
 refine eJ<|inT<|aH ?_
 refine JR.start [0,1,3,7,0,16,0,64,192,448,0,2047,4095] 11 mixedOrders (by decide +kernel) ?_
 refine JR.open (by exact rfl) ?_
 refine jkMove rfl<|jqN rfl (bU rfl)<|jkFld rfl<|bD rfl .nil (lA 0 rfl) (cZ rfl (aC.fact 0 rfl) rfl rfl rfl) aK.z<|jkFld rfl<|jkLd 0 rfl<|jkMove rfl<|jqN rfl (bU rfl)<|jkFld rfl<|bD rfl .nil (lA 0 rfl) (cZ rfl (aC.fact 0 rfl) rfl rfl rfl) aK.z<|jkMove rfl<|bF 11 rfl rfl<|bnE h fun k s h=>aE (aG.callQ VI (BS U d m n o p w q y k s) rfl (iJ [1,2,3,4,5,6] rfl)) rfl fun A=>qkAsg rfl<|dtN<|aN ?_
 cases h
 exact vH rfl
end
section
def xV (U:Nat) (p0:Int) (p1:Int):Option (Int):=
 if p0=(18:Int)then(some (wI .i64 (0 - p1)))else(Option.bind (gS U (decide (p1=(0:Int)))) fun a=>(some (a)))
theorem VF:aO Tryz.prog 163:=Tryz.call163
theorem KG (U:Nat) {p0:Int} {p1:Int} (r:Int) (h:xV U p0 p1=some r):
  aV Tryz.prog 163 #[vI (p0),vI (p1)] [] (fun x:Unit=>vI (r)) (fun x l=>l) (fun _ l=>l):=by
 refine aV.of Tryz.func163 rfl Tryz.ntmps163 rfl fun c=>?_
 refine sqR<|qkAsg rfl<|dtN<|aH<|sqR<|qkMove rfl<|qkEql rfl<|dtN ?_
 refine eZ h rfl (fun h=>?_) fun h=>?_
 ·refine sqR<|qkMove rfl<|aB (OE rfl) rfl<|qkAsg rfl<|dtN<|aN<|aI ?_
  cases h
  exact lD rfl
 refine cL<|sqR<|qkMove rfl<|qkEql rfl<|bnE h fun a b h=>aE (aG.callQ wE (jS U  a b) rfl .nil) rfl fun d=>qkAsg rfl<|dtN<|aN ?_
 cases h
 exact lD rfl
end
section
def iC (U:Nat) (p0:Int):Option (Int):=
 some (max (-1073741824:Int) (min p0 (1073741824:Int)))
theorem Cn:aO Tryz.prog 174:=Tryz.call174
theorem lJ (U:Nat) {p0:Int} (r:Int) (h:iC U p0=some r):
  aV Tryz.prog 174 #[vI (p0)] [] (fun x:Unit=>vI (r)) (fun x l=>l) (fun _ l=>l):=by
 refine aV.of Tryz.func174 rfl Tryz.ntmps174 rfl fun c=>?_
 unfold iC at h
 refine sqR<|qkAsg rfl<|dtN<|sqR<|qkMove rfl<|aB (Xb rfl rfl) rfl<|aB (Hc rfl rfl) rfl<|qkAsg rfl<|dtN<|aN ?_
 cases h
 exact lD rfl
end
section
def oF  (a:Int):Option (Int):=
 some (a)
def rM (p0:Int) (p1:Int) (a:Bool):Option (Int):=
 if a=true then(oF  (wI .i64 ((wI .i64 (Int.tdiv p0 p1)) - (1:Int))))else(oF  (wI .i64 (Int.tdiv p0 p1)))
def pL (U:Nat) (p0:Int) (p1:Int):Option (Int):=
 if p1=(0:Int)then(some (0:Int))else(ck (p1≠0) (ck (p1≠0) (if(Int.tmod p0 p1)≠(0:Int)then(rM p0 p1 (((decide (p0<(0:Int))) != (decide (p1<(0:Int))))))else(rM p0 p1 (false)))))
theorem OS:aO Tryz.prog 175:=Tryz.call175
theorem Bj (U:Nat) {p0:Int} {p1:Int} (r:Int) (h:pL U p0 p1=some r):
  aV Tryz.prog 175 #[vI (p0),vI (p1)] [] (fun x:Unit=>vI (r)) (fun x l=>l) (fun _ l=>l):=by
 refine aV.of Tryz.func175 rfl Tryz.ntmps175 rfl fun c=>?_
 refine sqR<|qkAsg rfl<|dtN<|aH<|sqR<|qkMove rfl<|qkEql rfl<|dtN ?_
 refine eZ h rfl (fun h=>?_) fun h=>?_
 ·refine sqR<|qkAsg rfl<|dtN<|aN<|aI ?_
  cases h
  exact lD rfl
 refine cL<|sqR<|qkMove rfl<|qkMove rfl<|ckE h fun j2 h=>aB (Sk rfl rfl j2) rfl<|qkAsg rfl<|dtN<|aH<|midU (fun a4=>oF  a4=some r) (fun a4 b5=>[(5,vI (a4))]) (fun a4 b5=>[]) ?_ ?_
 ·refine aH<|midU (fun a7=>rM p0 p1 a7=some r) (fun a7 b8=>[(5,vI (wI .i64 (Int.tdiv p0 p1))),(21,vB (a7))]) (fun a7 b8=>[]) ?_ ?_
  ·refine aM<|qkMove rfl<|qkMove rfl<|ckE h fun j10 h=>aB (LA rfl rfl j10) rfl<|qkNeq rfl<|qkMove rfl ?_
   refine AS h rfl (fun _ h=>?_) fun _ h=>?_
   ·refine gyMove rfl<|aL rfl (FJ rfl rfl) rfl<|gyMove rfl<|aL rfl (FJ rfl rfl) rfl<|aL rfl (XD rfl rfl rfl) rfl<|qkPkT rfl<|dtN ?_
    exact iQ (((decide (p0<(0:Int))) != (decide (p1<(0:Int))))) () h SF rfl
   refine gdSkip rfl<|gdSkip rfl<|gdSkip rfl<|gdSkip rfl<|gdSkip rfl<|qkPkF rfl<|dtN ?_
   exact iQ (false) () h SF rfl
  intro a7 b8 h
  refine zQ h rfl (fun _ h=>?_) fun _ h=>?_
  ·refine aM<|qkMove rfl<|aB (pD rfl rfl) rfl<|qkAsg rfl<|dtN ?_
   exact iQ (wI .i64 ((wI .i64 (Int.tdiv p0 p1)) - (1:Int))) () h SF rfl
  refine cL ?_
  exact iQ (wI .i64 (Int.tdiv p0 p1)) () h SF rfl
 intro a4 b5 h
 unfold oF at h
 refine sqR<|qkMove rfl<|qkAsg rfl<|dtN<|aN ?_
 cases h
 exact lD rfl
end
section
def sZ (U:Nat) (p0:Int) (p1:Int) (p2:Int):Option (Bool):=
 if p0=(35:Int)then(some (decide (p1=p2)))else(if p0=(36:Int)then(some (decide (p1≠p2)))else(if p0=(37:Int)then(some (decide (p1<p2)))else(if p0=(38:Int)then(some (decide (p1<=p2)))else(if p0=(39:Int)then(some (decide (p2<p1)))else(some (decide (p2<=p1)))))))
theorem VK:aO Tryz.prog 176:=Tryz.call176
theorem Gl (U:Nat) {p0:Int} {p1:Int} {p2:Int} (r:Bool) (h:sZ U p0 p1 p2=some r):
  aV Tryz.prog 176 #[vI (p0),vI (p1),vI (p2)] [] (fun x:Unit=>vB (r)) (fun x l=>l) (fun _ l=>l):=by
 refine aV.of Tryz.func176 rfl Tryz.ntmps176 rfl fun c=>?_
 refine sqR<|qkAsg rfl<|dtN<|aH<|sqR<|qkMove rfl<|dtN<|aR<|sqR<|qkEql rfl<|qkAsg rfl<|dtN ?_
 refine eZ h rfl (fun h=>?_) fun h=>?_
 ·refine sqR<|qkMove rfl<|qkMove rfl<|qkEql rfl<|qkAsg rfl<|dtN<|aN<|bT<|aI ?_
  cases h
  exact lD rfl
 refine sqR<|qkEql rfl<|qkAsg rfl<|dtN ?_
 refine eZ h rfl (fun h=>?_) fun h=>?_
 ·refine sqR<|qkMove rfl<|qkMove rfl<|qkNeq rfl<|qkAsg rfl<|dtN<|aN<|bT<|aI ?_
  cases h
  exact lD rfl
 refine sqR<|qkEql rfl<|qkAsg rfl<|dtN ?_
 refine eZ h rfl (fun h=>?_) fun h=>?_
 ·refine sqR<|qkMove rfl<|qkMove rfl<|qkLss rfl<|qkAsg rfl<|dtN<|aN<|bT<|aI ?_
  cases h
  exact lD rfl
 refine sqR<|qkEql rfl<|qkAsg rfl<|dtN ?_
 refine eZ h rfl (fun h=>?_) fun h=>?_
 ·refine sqR<|qkMove rfl<|qkMove rfl<|aB (Bg rfl rfl) rfl<|qkAsg rfl<|dtN<|aN<|bT<|aI ?_
  cases h
  exact lD rfl
 refine sqR<|qkEql rfl<|qkAsg rfl<|dtN ?_
 refine eZ h rfl (fun h=>?_) fun h=>?_
 ·refine sqR<|qkMove rfl<|qkMove rfl<|aB (wX rfl rfl) rfl<|qkAsg rfl<|dtN<|aN<|bT<|aI ?_
  cases h
  exact lD rfl
 refine eJ<|inT<|sqR<|qkMove rfl<|qkMove rfl<|aB (Bf rfl rfl) rfl<|qkAsg rfl<|dtN<|aN ?_
 cases h
 exact lD rfl
end
section
def oD  (a:Int):Option (Int):=
 some (a)
def oE  (a:Int):Option (Int):=
 some (a)
def wK (U:Nat) (p0:Int) (p1:Int) (p2:Int):Option (Int):=
 if p0=(30:Int)then(Option.bind (iC U (wI .i64 (p1*p2))) fun k=>(some (k)))else(if p0=(31:Int)then(Option.bind (pL U p1 p2) fun l=>(Option.bind (iC U l) fun m=>(some (m))))else(if p0=(32:Int)then(if p2=(0:Int)then(some (0:Int))else(Option.bind (pL U p1 p2) fun a=>(Option.bind (iC U (wI .i64 (p1 - (wI .i64 (p2*a))))) fun b=>(some (b)))))else(if p0=(33:Int)then(Option.bind (iC U (wI .i64 (p1+p2))) fun c=>(some (c)))else(if p0=(34:Int)then(Option.bind (iC U (wI .i64 (p1 - p2))) fun d=>(some (d)))else(if p0=(41:Int)then(if p1≠(0:Int)then(Option.bind (gS U (decide (p2≠(0:Int)))) fun e=>(oD  (e)))else(Option.bind (gS U false) fun f=>(oD  (f))))else(if p0=(42:Int)then(if p1≠(0:Int)then(Option.bind (gS U true) fun g=>(oE  (g)))else(Option.bind (gS U (decide (p2≠(0:Int)))) fun h=>(oE  (h))))else(Option.bind (sZ U p0 p1 p2) fun i=>(Option.bind (gS U i) fun j=>(some (j))))))))))
theorem VH:aO Tryz.prog 165:=Tryz.call165
theorem IE (U:Nat) {p0:Int} {p1:Int} {p2:Int} (r:Int) (h:wK U p0 p1 p2=some r):
  aV Tryz.prog 165 #[vI (p0),vI (p1),vI (p2)] [] (fun x:Unit=>vI (r)) (fun x l=>l) (fun _ l=>l):=by
 refine aV.of Tryz.func165 rfl Tryz.ntmps165 rfl fun c=>?_
 refine sqR<|qkAsg rfl<|dtN<|aH<|sqR<|qkMove rfl<|dtN<|aR<|sqR<|qkEql rfl<|qkAsg rfl<|dtN ?_
 refine eZ h rfl (fun h=>?_) fun h=>?_
 ·refine sqR<|qkMove rfl<|qkMove rfl<|aB (AL rfl rfl) rfl<|bnE h fun r2 w3 h=>aE (aG.callQ Cn (lJ U  r2 w3) rfl .nil) rfl fun x4=>qkAsg rfl<|dtN<|aN<|bT<|aI ?_
  cases h
  exact lD rfl
 refine sqR<|qkEql rfl<|qkAsg rfl<|dtN ?_
 refine eZ h rfl (fun h=>?_) fun h=>?_
 ·refine sqR<|qkMove rfl<|qkMove rfl<|bnE h fun r6 w7 h=>aE (aG.callQ OS (Bj U  r6 w7) rfl .nil) rfl fun x8=>bnE h fun r9 w10 h=>aE (aG.callQ Cn (lJ U  r9 w10) rfl .nil) rfl fun x11=>qkAsg rfl<|dtN<|aN<|bT<|aI ?_
  cases h
  exact lD rfl
 refine sqR<|qkEql rfl<|qkAsg rfl<|dtN ?_
 refine eZ h rfl (fun h=>?_) fun h=>?_
 ·refine aH<|sqR<|qkMove rfl<|qkEql rfl<|dtN ?_
  refine eZ h rfl (fun h=>?_) fun h=>?_
  ·refine sqR<|qkAsg rfl<|dtN<|aN<|aI<|bT<|aI ?_
   cases h
   exact lD rfl
  refine cL<|sqR<|qkMove rfl<|qkMove rfl<|qkMove rfl<|qkMove rfl<|bnE h fun r14 w15 h=>aE (aG.callQ OS (Bj U  r14 w15) rfl .nil) rfl fun x16=>aB (AL rfl rfl) rfl<|aB (pD rfl rfl) rfl<|bnE h fun r17 w18 h=>aE (aG.callQ Cn (lJ U  r17 w18) rfl .nil) rfl fun x19=>qkAsg rfl<|dtN<|aN<|bT<|aI ?_
  cases h
  exact lD rfl
 refine sqR<|qkEql rfl<|qkAsg rfl<|dtN ?_
 refine eZ h rfl (fun h=>?_) fun h=>?_
 ·refine sqR<|qkMove rfl<|qkMove rfl<|qkAdd rfl<|bnE h fun r21 w22 h=>aE (aG.callQ Cn (lJ U  r21 w22) rfl .nil) rfl fun x23=>qkAsg rfl<|dtN<|aN<|bT<|aI ?_
  cases h
  exact lD rfl
 refine sqR<|qkEql rfl<|qkAsg rfl<|dtN ?_
 refine eZ h rfl (fun h=>?_) fun h=>?_
 ·refine sqR<|qkMove rfl<|qkMove rfl<|aB (pD rfl rfl) rfl<|bnE h fun r25 w26 h=>aE (aG.callQ Cn (lJ U  r25 w26) rfl .nil) rfl fun x27=>qkAsg rfl<|dtN<|aN<|bT<|aI ?_
  cases h
  exact lD rfl
 refine sqR<|qkEql rfl<|qkAsg rfl<|dtN ?_
 refine eZ h rfl (fun h=>?_) fun h=>?_
 ·refine aH<|midU (fun a30=>oD  a30=some r) (fun a30 b31=>[(6,vI (a30))]) (fun a30 b31=>[]) ?_ ?_
  ·refine aM<|qkMove rfl<|qkNeq rfl<|qkMove rfl ?_
   refine AS h rfl (fun _ h=>?_) fun _ h=>?_
   ·refine gyMove rfl<|aL rfl (FK rfl rfl) rfl<|qkPkT rfl<|bnE h fun r33 w34 h=>aE (aG.callQ wE (jS U  r33 w34) rfl .nil) rfl fun x35=>qkAsg rfl<|dtN ?_
    exact iQ (r33) () h SF rfl
   refine gdSkip rfl<|gdSkip rfl<|qkPkF rfl<|bnE h fun r36 w37 h=>aE (aG.callQ wE (jS U  r36 w37) rfl .nil) rfl fun x38=>qkAsg rfl<|dtN ?_
   exact iQ (r36) () h SF rfl
  intro a30 b31 h
  unfold oD at h
  refine aN<|bT<|aI ?_
  cases h
  exact lD rfl
 refine sqR<|qkEql rfl<|qkAsg rfl<|dtN ?_
 refine eZ h rfl (fun h=>?_) fun h=>?_
 ·refine aH<|midU (fun a41=>oE  a41=some r) (fun a41 b42=>[(6,vI (a41))]) (fun a41 b42=>[]) ?_ ?_
  ·refine aM<|qkMove rfl<|qkNeq rfl<|qkMove rfl ?_
   refine AS h rfl (fun _ h=>?_) fun _ h=>?_
   ·refine gdSkip rfl<|gdSkip rfl<|qkPkT rfl<|bnE h fun r44 w45 h=>aE (aG.callQ wE (jS U  r44 w45) rfl .nil) rfl fun x46=>qkAsg rfl<|dtN ?_
    exact iQ (r44) () h SF rfl
   refine gyMove rfl<|aL rfl (FK rfl rfl) rfl<|qkPkF rfl<|bnE h fun r47 w48 h=>aE (aG.callQ wE (jS U  r47 w48) rfl .nil) rfl fun x49=>qkAsg rfl<|dtN ?_
   exact iQ (r47) () h SF rfl
  intro a41 b42 h
  unfold oE at h
  refine aN<|bT<|aI ?_
  cases h
  exact lD rfl
 refine eJ<|inT<|sqR<|qkMove rfl<|qkMove rfl<|qkMove rfl<|bnE h fun r50 w51 h=>aE (aG.callQ VK (Gl U  r50 w51) rfl .nil) rfl fun x52=>bnE h fun r53 w54 h=>aE (aG.callQ wE (jS U  r53 w54) rfl .nil) rfl fun x55=>qkAsg rfl<|dtN<|aN ?_
 cases h
 exact lD rfl
end
section
def wF  (a:Int):Option (Int):=
 some (a)
def sG (c:eS) (b:eR->Option (Int)) (a:Int):Option (Int):=
 b (a,(wI .i64 (c.2+(1:Int))))
def pV (p0:aQ) (a:eS) (b:eR->Option (Int)):Option (Int):=
 if a.2<(List.length p0:Int)then(ck (0<=a.2∧a.2<(List.length p0:Int)) (if(at' p0 a.2)≠(0:Int)then(sG a b (wI .i64 (a.1+(1:Int))))else(sG a b (a.1))))else(wF  (a.1))
def pE (U:Nat) (p0:aQ):Option (Int):=
 bM (pV p0) U ((0:Int),(0:Int))
theorem Kd:aO Tryz.prog 180:=Tryz.call180
theorem Bb (U:Nat) {p0:aQ} (v0:Value) (r:Int) (h:pE U p0=some r):
  aV Tryz.prog 180 #[v0] [Sl bL v0 p0] (fun x:Unit=>vI (r)) (fun x l=>l) (fun _ l=>l):=by
 refine aV.of Tryz.func180 rfl Tryz.ntmps180 rfl fun c=>?_
 unfold pE at h
 refine sqR<|qkAsg rfl<|dtN<|sqR<|qkAsg rfl<|dtN<|aH<|midU (fun a2=>wF  a2=some r) (fun a2 b3=>[(3,vI (a2))]) (fun a2 b3=>[]) ?_ ?_
 ·refine sqR<|qkMove rfl<|qkLen (aC.fact 0 rfl) rfl<|qkMove rfl<|dtN<|aR<|loopL (pV p0) (fun a7 b8=>[(3,vI (a7.1)),(6,v0),(7,vI (List.length p0:Int)),(8,vI (a7.2))]) (fun a7 b8=>[]) ((0:Int),(0:Int)) () h SF (aS.refl _) ?_
  intro k9 a7 b8 h
  refine sqR<|qkLss rfl<|dtN<|aH ?_
  refine eZ h rfl (fun h=>?_) fun h=>?_
  ·refine cL<|aH<|midU (fun a12=>sG a7 (bM (pV p0) k9) a12=some r) (fun a12 b13=>[(3,vI (a12)),(6,v0),(7,vI (List.length p0:Int)),(8,vI (a7.2))]) (fun a12 b13=>[]) ?_ ?_
   ·refine aR<|sqR<|ckE h fun j14 h=>aB (bG rfl rfl (aC.fact 0 rfl) rfl rfl j14) rfl<|aB (cK rfl (aC.fact 0 rfl) rfl rfl rfl fE j14) rfl<|qkAsg rfl<|dtN<|sqR<|qkMove rfl<|qkNeq rfl<|dtN ?_
    refine eZ h rfl (fun h=>?_) fun h=>?_
    ·refine aM<|qkMove rfl<|qkAdd rfl<|qkAsg rfl<|eI<|inT ?_
     exact iQ (wI .i64 (a7.1+(1:Int))) () h SF rfl
    refine eJ<|inT ?_
    exact iQ (a7.1) () h SF rfl
   intro a12 b13 h
   unfold sG at h
   refine aM<|qkAdd rfl<|qkMove rfl<|dtN ?_
   exact Ah (a12,(wI .i64 (a7.2+(1:Int)))) () h SF rfl
  refine gH ?_
  exact iQ (a7.1) () h SF rfl
 intro a2 b3 h
 unfold wF at h
 refine sqR<|qkMove rfl<|qkAsg rfl<|dtN<|aN ?_
 cases h
 exact lD rfl
end
section
def nV  (a:Unit):Option (Int):=
 some (-1:Int)
def fC (p0:aQ) (d:Int->Option Bool) (a:Int) (b:(Int)->Option (Int)):Option (Int):=
 if a<(List.length p0:Int)then(ck (0<=a∧a<(List.length p0:Int)) (Option.bind (d (at' p0 a)) fun c=>(if c=true then(some (a))else(b (wI .i64 (a+(1:Int)))))))else(nV  (()))
def lY (U:Nat) (p0:aQ) (a:Int->Option Bool):Option (Int):=
 bM (fC p0 a) U (0:Int)
theorem VL:aO Tryz.prog 181:=Tryz.call181
theorem DC (U:Nat) {p0:aQ} {g1:Int->Option Bool} (f1:FuncId) (cs1:dO) (Lf:List aX) (hb_g1:aO Tryz.prog f1) (hm_g1:∀(y0:Int) (r:Bool),g1 y0=some r->aV Tryz.prog f1 ([vI (y0)]++cs1).toArray Lf (fun _:Unit=>vB (r)) (fun _ l=>l) (fun _ l=>l)) (v0:Value) (r:Int) (h:lY U p0 g1=some r):
  aV Tryz.prog 181 #[v0,Value.func (.func f1) #[] (cs1).toArray] ([Sl bL v0 p0]++Lf) (fun x:Unit=>vI (r)) (fun x l=>l) (fun _ l=>l):=by
 refine aV.of Tryz.func181 rfl Tryz.ntmps181 rfl fun c=>?_
 unfold lY at h
 refine sqR<|qkAsg rfl<|dtN<|aH<|xC (B:=Unit) (fun a1=>nV  a1=some r) (fun a1 b2=>[]) (fun a1 b2=>[]) (fun a1 b2=>([Sl bL v0 p0]++Lf)) ?_ ?_
 ·refine sqR<|qkMove rfl<|qkLen (aC.fact 0 rfl) rfl<|qkMove rfl<|dtN<|aR<|Ch (B:=Unit) (fC p0 g1) (fun a5 b6=>[(0,v0),(1,Value.func (.func f1) #[] (cs1).toArray),(7,vI (List.length p0:Int)),(8,vI (a5))]) (fun a5 b6=>[]) (fun a5 b6=>([Sl bL v0 p0]++Lf)) (0:Int) () h SF (aS.refl _) (aA.refl _ _) ?_
  intro k7 a5 b6 h
  refine sqR<|qkLss rfl<|dtN<|aH ?_
  refine eZ h rfl (fun h=>?_) fun h=>?_
  ·refine cL<|aH<|aR<|sqR<|qkMove rfl<|qkAsg rfl<|dtN<|sqR<|qkMove rfl<|qkMove rfl<|qkMove rfl<|ckE h fun j9 h=>aB (bG rfl rfl (aC.fact 0 rfl) rfl rfl j9) rfl<|aB (cK rfl (aC.fact 0 rfl) rfl rfl rfl fE j9) rfl<|bnE h fun r10 w11 h=>aE (oY (vs:=[vI (at' p0 a5)]) (cs:=cs1) hb_g1 rfl (hm_g1 (at' p0 a5) r10 w11) rfl (aA.tail _) (fun _ _=>rfl)) rfl fun x12=>dtN ?_
   refine zQ h rfl (fun _ h=>?_) fun _ h=>?_
   ·refine sqR<|qkMove rfl<|qkAsg rfl<|dtN<|aN<|bT<|aI<|aI<|bT<|aI ?_
    cases h
    exact lD rfl
   refine eJ<|inT<|aM<|qkAdd rfl<|qkMove rfl<|dtN ?_
   exact Ah (wI .i64 (a5+(1:Int))) () h SF rfl
  refine gH ?_
  exact iQ () (()) h SF rfl
 intro a1 b2 h
 unfold nV at h
 refine sqR<|qkAsg rfl<|dtN<|aN ?_
 cases h
 exact lD rfl
end
section
def nL (U:Nat) (p0:Int):Option (Bool):=
 some (decide (p0≠(0:Int)))
theorem VN:aO Tryz.prog 182:=Tryz.call182
theorem IF (U:Nat) {p0:Int} (r:Bool) (h:nL U p0=some r):
  aV Tryz.prog 182 #[vI (p0)] [] (fun x:Unit=>vB (r)) (fun x l=>l) (fun _ l=>l):=by
 refine aV.of Tryz.func182 rfl Tryz.ntmps182 rfl fun c=>?_
 unfold nL at h
 refine sqR<|qkAsg rfl<|dtN<|sqR<|qkMove rfl<|qkNeq rfl<|qkAsg rfl<|dtN<|aN ?_
 cases h
 exact lD rfl
end
section
def r_  (a:eS):Option eR:=
 some (a.1,a.2)
def nU (c:Int×Int×Int) (b:(Int×Int×Int)->Option eR) (a:eS):Option eR:=
 b (a.1,a.2,(wI .i64 (c.2.2+(1:Int))))
def sA (p0:aQ) (a:Int×Int×Int) (b:(Int×Int×Int)->Option eR):Option eR:=
 if a.2.2<(List.length p0:Int)then(ck (0<=a.2.2∧a.2.2<(List.length p0:Int)) (if a.1<(at' p0 a.2.2)then(nU a b ((at' p0 a.2.2),a.1))else(nU a b (a.1,(max a.2.1 (at' p0 a.2.2))))))else(r_  (a.1,a.2.1))
def pF (U:Nat) (p0:aQ):Option eR:=
 bM (sA p0) U ((-1073741824:Int),(-1073741824:Int),(0:Int))
theorem OT:aO Tryz.prog 183:=Tryz.call183
theorem yV (U:Nat) {p0:aQ} (v0:Value) (r:eS) (h:pF U p0=some r):
  aV Tryz.prog 183 #[v0] [Sl bL v0 p0] (fun x:Unit=>Value.tuple #[vI (r.1),vI (r.2)]) (fun x l=>l) (fun _ l=>l):=by
 refine aV.of Tryz.func183 rfl Tryz.ntmps183 rfl fun c=>?_
 unfold pF at h
 refine sqR<|qkAsg rfl<|qkAsg rfl<|dtN<|sqR<|qkAsg rfl<|qkAsg rfl<|dtN<|aH<|midU (fun a3=>r_  a3=some r) (fun a3 b4=>[(2,vI (a3.1)),(3,vI (a3.2))]) (fun a3 b4=>[]) ?_ ?_
 ·refine sqR<|qkMove rfl<|qkLen (aC.fact 0 rfl) rfl<|qkMove rfl<|dtN<|aR<|loopL (sA p0) (fun a9 b10=>[(2,vI (a9.1)),(3,vI (a9.2.1)),(6,v0),(7,vI (List.length p0:Int)),(8,vI (a9.2.2))]) (fun a9 b10=>[]) ((-1073741824:Int),(-1073741824:Int),(0:Int)) () h SF (aS.refl _) ?_
  intro k11 a9 b10 h
  refine sqR<|qkLss rfl<|dtN<|aH ?_
  refine eZ h rfl (fun h=>?_) fun h=>?_
  ·refine cL<|aH<|midU (fun a15=>nU a9 (bM (sA p0) k11) a15=some r) (fun a15 b16=>[(2,vI (a15.1)),(3,vI (a15.2)),(6,v0),(7,vI (List.length p0:Int)),(8,vI (a9.2.2))]) (fun a15 b16=>[]) ?_ ?_
   ·refine aR<|sqR<|ckE h fun j17 h=>aB (bG rfl rfl (aC.fact 0 rfl) rfl rfl j17) rfl<|aB (cK rfl (aC.fact 0 rfl) rfl rfl rfl fE j17) rfl<|qkAsg rfl<|dtN<|sqR<|qkMove rfl<|qkMove rfl<|aB (wX rfl rfl) rfl<|dtN ?_
    refine eZ h rfl (fun h=>?_) fun h=>?_
    ·refine aM<|qkMove rfl<|qkMove rfl<|qkAsg rfl<|qkAsg rfl<|eI<|inT ?_
     exact iQ ((at' p0 a9.2.2),a9.1) () h SF rfl
    refine aM<|qkMove rfl<|qkMove rfl<|aB (Hc rfl rfl) rfl<|qkAsg rfl<|eI<|inT ?_
    exact iQ (a9.1,(max a9.2.1 (at' p0 a9.2.2))) () h SF rfl
   intro a15 b16 h
   unfold nU at h
   refine aM<|qkAdd rfl<|qkMove rfl<|dtN ?_
   exact Ah (a15.1,a15.2,(wI .i64 (a9.2.2+(1:Int)))) () h SF rfl
  refine gH ?_
  exact iQ (a9.1,a9.2.1) () h SF rfl
 intro a3 b4 h
 unfold r_ at h
 refine sqR<|qkMove rfl<|qkMove rfl<|qkAsg rfl<|qkAsg rfl<|dtN<|aN ?_
 cases h
 exact dR () rfl rfl (RV.tmp rfl) (RV.tmp rfl) (aS.refl _) aA.nil
end
section
def tG  (a:Unit):Option (Int):=
 some (-1:Int)
def iV (p0:aQ) (p1:Int) (a:Int) (b:(Int)->Option (Int)):Option (Int):=
 if a<(List.length p0:Int)then(ck (0<=a∧a<(List.length p0:Int)) (if p1=(at' p0 a)then(some (a))else(b (wI .i64 (a+(1:Int))))))else(tG  (()))
def oL (U:Nat) (p0:aQ) (p1:Int):Option (Int):=
 bM (iV p0 p1) U (0:Int)
theorem VQ:aO Tryz.prog 190:=Tryz.call190
theorem Ij (U:Nat) {p0:aQ} {p1:Int} (v0:Value) (r:Int) (h:oL U p0 p1=some r):
  aV Tryz.prog 190 #[v0,vI (p1)] [Sl bL v0 p0] (fun x:Unit=>vI (r)) (fun x l=>l) (fun _ l=>l):=by
 refine aV.of Tryz.func190 rfl Tryz.ntmps190 rfl fun c=>?_
 unfold oL at h
 refine sqR<|qkAsg rfl<|dtN<|aH<|midU (fun a1=>tG  a1=some r) (fun a1 b2=>[]) (fun a1 b2=>[]) ?_ ?_
 ·refine sqR<|qkMove rfl<|qkLen (aC.fact 0 rfl) rfl<|qkMove rfl<|dtN<|aR<|loopL (iV p0 p1) (fun a5 b6=>[(0,v0),(1,vI (p1)),(7,vI (List.length p0:Int)),(8,vI (a5))]) (fun a5 b6=>[]) (0:Int) () h SF (aS.refl _) ?_
  intro k7 a5 b6 h
  refine sqR<|qkLss rfl<|dtN<|aH ?_
  refine eZ h rfl (fun h=>?_) fun h=>?_
  ·refine cL<|aH<|aR<|sqR<|qkMove rfl<|qkAsg rfl<|dtN<|sqR<|qkMove rfl<|qkMove rfl<|qkMove rfl<|ckE h fun j9 h=>aB (bG rfl rfl (aC.fact 0 rfl) rfl rfl j9) rfl<|aB (cK rfl (aC.fact 0 rfl) rfl rfl rfl fE j9) rfl<|qkEql rfl<|dtN ?_
   refine eZ h rfl (fun h=>?_) fun h=>?_
   ·refine sqR<|qkMove rfl<|qkAsg rfl<|dtN<|aN<|bT<|aI<|aI<|bT<|aI ?_
    cases h
    exact lD rfl
   refine eJ<|inT<|aM<|qkAdd rfl<|qkMove rfl<|dtN ?_
   exact Ah (wI .i64 (a5+(1:Int))) () h SF rfl
  refine gH ?_
  exact iQ () (()) h SF rfl
 intro a1 b2 h
 unfold tG at h
 refine sqR<|qkAsg rfl<|dtN<|aN ?_
 cases h
 exact lD rfl
end
section
def qJ (U:Nat) (p0:aQ) (p1:Int):Option (Bool):=
 Option.bind (oL U p0 p1) fun a=>(some (decide ((0:Int)<=a)))
theorem VP:aO Tryz.prog 188:=Tryz.call188
theorem ED (U:Nat) {p0:aQ} {p1:Int} (a:Value) (r:Bool) (h:qJ U p0 p1=some r):
  aV Tryz.prog 188 #[a,vI (p1)] [Sl bL a p0] (fun x:Unit=>vB (r)) (fun x l=>l) (fun _ l=>l):=by
 refine aV.of Tryz.func188 rfl Tryz.ntmps188 rfl fun c=>?_
 refine sqR<|qkAsg rfl<|dtN<|sqR<|qkMove rfl<|qkMove rfl<|bnE h fun b d h=>aE (aG.callQ VQ (Ij U a b d) rfl (iJ [0] rfl)) rfl fun e=>aB (Bf rfl rfl) rfl<|qkAsg rfl<|dtN<|aN ?_
 cases h
 exact lD rfl
end
section
def zE  (a:Int):Option (Int):=
 some (a)
def wY (U:Nat) (p0:aQ) (a:Int) (b:(Int)->Option (Int)):Option (Int):=
 Option.bind (qJ U p0 a) fun c=>(if c=true then(b (wI .i64 (a+(1:Int))))else(zE  (a)))
def yL (U:Nat) (p0:aQ):Option (Int):=
 bM (wY U p0) U (0:Int)
theorem VO:aO Tryz.prog 184:=Tryz.call184
theorem Oq (U:Nat) {p0:aQ} (v0:Value) (r:Int) (h:yL U p0=some r):
  aV Tryz.prog 184 #[v0] [Sl bL v0 p0] (fun x:Unit=>vI (r)) (fun x l=>l) (fun _ l=>l):=by
 refine aV.of Tryz.func184 rfl Tryz.ntmps184 rfl fun c=>?_
 unfold yL at h
 refine sqR<|qkAsg rfl<|dtN<|sqR<|qkAsg rfl<|dtN<|aH<|midU (fun a2=>zE  a2=some r) (fun a2 b3=>[(3,vI (a2))]) (fun a2 b3=>[]) ?_ ?_
 ·refine aR<|loopL (wY U p0) (fun a6 b7=>[(0,v0),(3,vI (a6))]) (fun a6 b7=>[]) (0:Int) () h SF (aS.refl _) ?_
  intro k8 a6 b7 h
  refine aH<|sqR<|qkMove rfl<|qkMove rfl<|bnE h fun r9 w10 h=>aE (aG.callQ VP (ED U v0 r9 w10) rfl (iJ [0] rfl)) rfl fun x11=>dtN ?_
  refine zQ h rfl (fun _ h=>?_) fun _ h=>?_
  ·refine cL<|aR<|aM<|qkMove rfl<|qkAdd rfl<|qkAsg rfl<|eI<|inT ?_
   exact Ah (wI .i64 (a6+(1:Int))) () h SF rfl
  refine gH ?_
  exact iQ (a6) () h SF rfl
 intro a2 b3 h
 unfold zE at h
 refine sqR<|qkMove rfl<|qkAsg rfl<|dtN<|aN ?_
 cases h
 exact lD rfl
end
section
def xU  (a:Int):Option (Int):=
 some (a)
def rJ (p1:aQ) (a:eS) (b:eR->Option (Int)):Option (Int):=
 if a.2<(List.length p1:Int)then(ck (0<=a.2∧a.2<(List.length p1:Int)) (b ((min a.1 (at' p1 a.2)),(wI .i64 (a.2+(1:Int))))))else(xU  (a.1))
def AQ (U:Nat) (a:Int):Option (Int):=
 Option.bind (iC U a) fun b=>(some (b))
def rK (U:Nat) (p1:aQ) (a:eS) (b:eR->Option (Int)):Option (Int):=
 if a.2<(List.length p1:Int)then(ck (0<=a.2∧a.2<(List.length p1:Int)) (b ((wI .i64 (a.1+(at' p1 a.2))),(wI .i64 (a.2+(1:Int))))))else(AQ U (a.1))
def zH (U:Nat) (p0:Int) (p1:aQ):Option (Int):=
 if p0=(20:Int)then(Option.bind (pE U p1) fun g=>(Option.bind (gS U (decide (g=(List.length p1:Int)))) fun h=>(some (h))))else(if p0=(21:Int)then(Option.bind (pE U p1) fun i=>(Option.bind (gS U (decide ((0:Int)<i))) fun a=>(some (a))))else(if p0=(22:Int)then(Option.bind (pE U p1) fun b=>(some (b)))else(if p0=(23:Int)then(Option.bind (lY U p1 (fun j=>nL U j)) fun c=>(some (c)))else(if p0=(24:Int)then(bM (rJ p1) U ((1073741824:Int),(0:Int)))else(if p0=(25:Int)then(Option.bind (pF U p1) fun d=>(some (d.1)))else(if p0=(26:Int)then(bM (rK U p1) U ((0:Int),(0:Int)))else(if p0=(27:Int)then(Option.bind (yL U p1) fun e=>(some (e)))else(if p0=(28:Int)then(Option.bind (pF U p1) fun f=>(some (f.2)))else(if(List.length p1:Int)=(0:Int)then(some (0:Int))else(ck (0<=(0:Int)∧(0:Int)<(List.length p1:Int)) (some (at' p1 (0:Int)))))))))))))
theorem VJ:aO Tryz.prog 173:=Tryz.call173
theorem MH (U:Nat) {p0:Int} {p1:aQ} (v0:Value) (r:Int) (h:zH U p0 p1=some r):
  aV Tryz.prog 173 #[vI (p0),v0] [Sl bL v0 p1] (fun x:Unit=>vI (r)) (fun x l=>l) (fun _ l=>l):=by
 refine aV.of Tryz.func173 rfl Tryz.ntmps173 rfl fun c=>?_
 refine sqR<|qkAsg rfl<|dtN<|aH<|sqR<|qkMove rfl<|dtN<|aR<|sqR<|qkEql rfl<|qkAsg rfl<|dtN ?_
 refine eZ h rfl (fun h=>?_) fun h=>?_
 ·refine sqR<|qkMove rfl<|bnE h fun r2 w3 h=>aE (aG.callQ Kd (Bb U v0 r2 w3) rfl (iJ [0] rfl)) rfl fun x4=>qkMove rfl<|qkLen (aC.fact 0 rfl) rfl<|qkEql rfl<|bnE h fun r5 w6 h=>aE (aG.callQ wE (jS U  r5 w6) rfl .nil) rfl fun x7=>qkAsg rfl<|dtN<|aN<|bT<|aI ?_
  cases h
  exact lD rfl
 refine sqR<|qkEql rfl<|qkAsg rfl<|dtN ?_
 refine eZ h rfl (fun h=>?_) fun h=>?_
 ·refine sqR<|qkMove rfl<|bnE h fun r9 w10 h=>aE (aG.callQ Kd (Bb U v0 r9 w10) rfl (iJ [0] rfl)) rfl fun x11=>aB (wX rfl rfl) rfl<|bnE h fun r12 w13 h=>aE (aG.callQ wE (jS U  r12 w13) rfl .nil) rfl fun x14=>qkAsg rfl<|dtN<|aN<|bT<|aI ?_
  cases h
  exact lD rfl
 refine sqR<|qkEql rfl<|qkAsg rfl<|dtN ?_
 refine eZ h rfl (fun h=>?_) fun h=>?_
 ·refine sqR<|qkMove rfl<|bnE h fun r16 w17 h=>aE (aG.callQ Kd (Bb U v0 r16 w17) rfl (iJ [0] rfl)) rfl fun x18=>qkAsg rfl<|dtN<|aN<|bT<|aI ?_
  cases h
  exact lD rfl
 refine sqR<|qkEql rfl<|qkAsg rfl<|dtN ?_
 refine eZ h rfl (fun h=>?_) fun h=>?_
 ·refine sqR<|qkMove rfl<|bnE h fun r20 w21 h=>aE (aG.callQ VL (DC U 182 [] [] VN (fun y0 r h=>IF U  r h) v0 r20 w21) rfl (iJ [0] rfl)) rfl fun x22=>qkAsg rfl<|dtN<|aN<|bT<|aI ?_
  cases h
  exact lD rfl
 refine sqR<|qkEql rfl<|qkAsg rfl<|dtN ?_
 refine eZ h rfl (fun h=>?_) fun h=>?_
 ·refine sqR<|qkAsg rfl<|dtN<|aH<|midU (fun a25=>xU  a25=some r) (fun a25 b26=>[(5,vI (a25))]) (fun a25 b26=>[]) ?_ ?_
  ·refine sqR<|qkMove rfl<|qkLen (aC.fact 0 rfl) rfl<|qkMove rfl<|dtN<|aR<|loopL (rJ p1) (fun a30 b31=>[(5,vI (a30.1)),(40,v0),(41,vI (List.length p1:Int)),(42,vI (a30.2))]) (fun a30 b31=>[]) ((1073741824:Int),(0:Int)) () h SF (aS.refl _) ?_
   intro k32 a30 b31 h
   refine sqR<|qkLss rfl<|dtN<|aH ?_
   refine eZ h rfl (fun h=>?_) fun h=>?_
   ·refine cL<|aH<|aR<|sqR<|ckE h fun j34 h=>aB (bG rfl rfl (aC.fact 0 rfl) rfl rfl j34) rfl<|aB (cK rfl (aC.fact 0 rfl) rfl rfl rfl fE j34) rfl<|qkAsg rfl<|dtN<|aM<|qkMove rfl<|qkMove rfl<|aB (Xb rfl rfl) rfl<|qkAsg rfl<|eI<|inT<|aM<|qkAdd rfl<|qkMove rfl<|dtN ?_
    exact Ah ((min a30.1 (at' p1 a30.2)),(wI .i64 (a30.2+(1:Int)))) () h SF rfl
   refine gH ?_
   exact iQ (a30.1) () h SF rfl
  intro a25 b26 h
  unfold xU at h
  refine sqR<|qkMove rfl<|qkAsg rfl<|dtN<|aN<|bT<|aI ?_
  cases h
  exact lD rfl
 refine sqR<|qkEql rfl<|qkAsg rfl<|dtN ?_
 refine eZ h rfl (fun h=>?_) fun h=>?_
 ·refine sqR<|qkMove rfl<|bnE h fun r36 w37 h=>aE (aG.callQ OT (yV U v0 r36 w37) rfl (iJ [0] rfl)) rfl fun x38=>qkMove rfl<|qkExt rfl<|qkExt rfl<|qkAsg rfl<|qkAsg rfl<|dtN<|sqR<|qkMove rfl<|qkAsg rfl<|dtN<|aN<|bT<|aI ?_
  cases h
  exact lD rfl
 refine sqR<|qkEql rfl<|qkAsg rfl<|dtN ?_
 refine eZ h rfl (fun h=>?_) fun h=>?_
 ·refine sqR<|qkAsg rfl<|dtN<|aH<|midU (fun a41=>AQ U a41=some r) (fun a41 b42=>[(10,vI (a41))]) (fun a41 b42=>[]) ?_ ?_
  ·refine sqR<|qkMove rfl<|qkLen (aC.fact 0 rfl) rfl<|qkMove rfl<|dtN<|aR<|loopL (rK U p1) (fun a49 b50=>[(10,vI (a49.1)),(61,v0),(62,vI (List.length p1:Int)),(63,vI (a49.2))]) (fun a49 b50=>[]) ((0:Int),(0:Int)) () h SF (aS.refl _) ?_
   intro k51 a49 b50 h
   refine sqR<|qkLss rfl<|dtN<|aH ?_
   refine eZ h rfl (fun h=>?_) fun h=>?_
   ·refine cL<|aH<|aR<|sqR<|ckE h fun j53 h=>aB (bG rfl rfl (aC.fact 0 rfl) rfl rfl j53) rfl<|aB (cK rfl (aC.fact 0 rfl) rfl rfl rfl fE j53) rfl<|qkAsg rfl<|dtN<|aM<|qkMove rfl<|qkMove rfl<|qkAdd rfl<|qkAsg rfl<|eI<|inT<|aM<|qkAdd rfl<|qkMove rfl<|dtN ?_
    exact Ah ((wI .i64 (a49.1+(at' p1 a49.2))),(wI .i64 (a49.2+(1:Int)))) () h SF rfl
   refine gH ?_
   exact iQ (a49.1) () h SF rfl
  intro a41 b42 h
  refine sqR<|qkMove rfl<|bnE h fun r43 w44 h=>aE (aG.callQ Cn (lJ U  r43 w44) rfl .nil) rfl fun x45=>qkAsg rfl<|dtN<|aN<|bT<|aI ?_
  cases h
  exact lD rfl
 refine sqR<|qkEql rfl<|qkAsg rfl<|dtN ?_
 refine eZ h rfl (fun h=>?_) fun h=>?_
 ·refine sqR<|qkMove rfl<|bnE h fun r55 w56 h=>aE (aG.callQ VO (Oq U v0 r55 w56) rfl (iJ [0] rfl)) rfl fun x57=>qkAsg rfl<|dtN<|aN<|bT<|aI ?_
  cases h
  exact lD rfl
 refine sqR<|qkEql rfl<|qkAsg rfl<|dtN ?_
 refine eZ h rfl (fun h=>?_) fun h=>?_
 ·refine sqR<|qkMove rfl<|bnE h fun r59 w60 h=>aE (aG.callQ OT (yV U v0 r59 w60) rfl (iJ [0] rfl)) rfl fun x61=>qkMove rfl<|qkExt rfl<|qkExt rfl<|qkAsg rfl<|qkAsg rfl<|dtN<|sqR<|qkMove rfl<|qkAsg rfl<|dtN<|aN<|bT<|aI ?_
  cases h
  exact lD rfl
 refine eJ<|inT<|aH<|sqR<|qkMove rfl<|qkLen (aC.fact 0 rfl) rfl<|qkEql rfl<|dtN ?_
 refine eZ h rfl (fun h=>?_) fun h=>?_
 ·refine sqR<|qkAsg rfl<|dtN<|aN<|aI ?_
  cases h
  exact lD rfl
 refine cL<|sqR<|qkMove rfl<|ckE h fun j63 h=>aB (bG rfl rfl (aC.fact 0 rfl) rfl rfl j63) rfl<|aB (cK rfl (aC.fact 0 rfl) rfl rfl rfl fE j63) rfl<|qkAsg rfl<|dtN<|aN ?_
 cases h
 exact lD rfl
end
section
def mE  (a:eS):Option eR:=
 some (a.1,a.2)
def jC (U:Nat) (p0:KP) (p1:Int) (a:Int×aQ) (b:Int):Option eR:=
 ck (0<=(List.length (at' p0.1.2.1.2 p0.2.2.1):Int)∧(List.length (at' p0.1.2.1.2 p0.2.2.1):Int)<=((24:Nat):Int)∧(List.length (at' p0.1.2.1.2 p0.2.2.1):Int)<=(List.length a.2:Int)) (Option.bind (zH U ((at' p0.2.2.2 p1).1) (List.take (Int.toNat (List.length (at' p0.1.2.1.2 p0.2.2.1):Int)) a.2)) fun c=>(mE  (c,b)))
def qA (U:Nat) (p0:KP) (p1:Int) (a:Int×aQ):Option eR:=
 if(List.length (at' p0.1.2.1.2 p0.2.2.1):Int)=(0:Int)then(Option.bind (AX U p0.2.2.2 p1) fun b=>(jC U p0 p1 a (b)))else(jC U p0 p1 a (a.1))
def jD (U:Nat) (p0:KP) (p1:Int) (d:WQ->Int->Int->Option eR) (a:Int×Int×aQ) (b:(Int×Int×aQ)->Option eR):Option eR:=
 if a.2.1<(List.length (at' p0.1.2.1.2 p0.2.2.1):Int)then(Option.bind (d ((((((p0.1.1.1,p0.1.1.2.1,p0.1.1.2.2)),((p0.1.2.1.1,p0.1.2.1.2)),p0.1.2.2.1,p0.1.2.2.2)),p0.2.1,p0.2.2.1,p0.2.2.2)) (wI .i64 (p1+(1:Int))) a.2.1) fun c=>(ck ((0<=a.2.1∧a.2.1<((24:Nat):Int))∧List.length a.2.2=24) (b (c.2,(wI .i64 (a.2.1+(1:Int))),(List.set a.2.2 (Int.toNat a.2.1) c.1)))))else(qA U p0 p1 (a.1,a.2.2))
def cS (b:WQ->Int->Int->Option eR) (U:Nat) (p0:KP) (p1:Int) (p2:Int):Option eR:=
 ck (0<=p1∧p1<(List.length p0.2.2.2:Int)) (if((at' p0.2.2.2 p1).1)<=(17:Int)then(Option.bind (kQ U ((((((p0.1.1.1,p0.1.1.2.1,p0.1.1.2.2)),((p0.1.2.1.1,p0.1.2.1.2)),p0.1.2.2.1,p0.1.2.2.2)),p0.2.1,p0.2.2.1,p0.2.2.2)) ((((at' p0.2.2.2 p1).1),((at' p0.2.2.2 p1).2))) p2) fun j=>(some (j,(wI .i64 (p1+(1:Int))))))else(if((at' p0.2.2.2 p1).1)<=(19:Int)then(Option.bind (b ((((((p0.1.1.1,p0.1.1.2.1,p0.1.1.2.2)),((p0.1.2.1.1,p0.1.2.1.2)),p0.1.2.2.1,p0.1.2.2.2)),p0.2.1,p0.2.2.1,p0.2.2.2)) (wI .i64 (p1+(1:Int))) p2) fun i=>(Option.bind (xV U ((at' p0.2.2.2 p1).1) i.1) fun g=>(some (g,i.2))))else(if((at' p0.2.2.2 p1).1)<=(29:Int)then(ck (0<=p0.2.2.1∧p0.2.2.1<(List.length p0.1.2.1.2:Int)) (bM (jD U p0 p1 b) U ((0:Int),(0:Int),(List.replicate 24 (0:Int)))))else(if((at' p0.2.2.2 p1).1)<=(42:Int)then(Option.bind (b ((((((p0.1.1.1,p0.1.1.2.1,p0.1.1.2.2)),((p0.1.2.1.1,p0.1.2.1.2)),p0.1.2.2.1,p0.1.2.2.2)),p0.2.1,p0.2.2.1,p0.2.2.2)) (wI .i64 (p1+(1:Int))) p2) fun c=>(Option.bind (b ((((((p0.1.1.1,p0.1.1.2.1,p0.1.1.2.2)),((p0.1.2.1.1,p0.1.2.1.2)),p0.1.2.2.1,p0.1.2.2.2)),p0.2.1,p0.2.2.1,p0.2.2.2)) c.2 p2) fun d=>(Option.bind (wK U ((at' p0.2.2.2 p1).1) c.1 d.1) fun h=>(some (h,d.2)))))else(Option.bind (b ((((((p0.1.1.1,p0.1.1.2.1,p0.1.1.2.2)),((p0.1.2.1.1,p0.1.2.1.2)),p0.1.2.2.1,p0.1.2.2.2)),p0.2.1,p0.2.2.1,p0.2.2.2)) (wI .i64 (p1+(1:Int))) p2) fun e=>(Option.bind (b ((((((p0.1.1.1,p0.1.1.2.1,p0.1.1.2.2)),((p0.1.2.1.1,p0.1.2.1.2)),p0.1.2.2.1,p0.1.2.2.2)),p0.2.1,p0.2.2.1,p0.2.2.2)) e.2 p2) fun f=>(Option.bind (b ((((((p0.1.1.1,p0.1.1.2.1,p0.1.1.2.2)),((p0.1.2.1.1,p0.1.2.1.2)),p0.1.2.2.1,p0.1.2.2.2)),p0.2.1,p0.2.2.1,p0.2.2.2)) f.2 p2) fun a=>(if e.1≠(0:Int)then(some (f.1,a.2))else(some (a.1,a.2))))))))))
def bP:Nat->WQ->Int->Int->Option eR
 |0,_,_,_=>none
 |U+1,p0,p1,p2=>cS (bP U) U p0 p1 p2
theorem zD:aO Tryz.prog 146:=Tryz.call146
theorem Ba (rc:WQ->Int->Int->Option eR) (U:Nat) (hrc:∀{p0:KP} {p1:Int} {p2:Int} (bx0:Nat)  (bx1:Nat)  (v2:Value)  (v3:Value)  (v4:Value)  (v5:Value)  (z6:jT)  (v7:Value)  (z8:oV)  (v9:Value)  (z10:oV)  (v11:Value) (r:eS),rc p0 p1 p2=some r->aV Tryz.prog 146 #[vP bx0,vI (p1),vI (p2)] [bS bx0 [vP bx1,v9,vI (p0.2.2.1),v11] 226,bS bx1 [vS (p0.1.1.1),v2,v3,v4,v5,vI (p0.1.2.2.1),v7] 176,Sl aJ v2 p0.1.1.2.1,Sl aF v3 p0.1.1.2.2,Sl bL v4 p0.1.2.1.1,S2 aW v5 z6 p0.1.2.1.2,S2 bL v7 z8 p0.1.2.2.2,S2 bL v9 z10 p0.2.1,Sl aW v11 p0.2.2.2] (fun x:Unit=>Value.tuple #[vI (r.1),vI (r.2)]) (fun x l=>l) (fun _ l=>l)) {p0:KP} {p1:Int} {p2:Int} (bx0:Nat)  (bx1:Nat)  (v2:Value)  (v3:Value)  (v4:Value)  (v5:Value)  (z6:jT)  (v7:Value)  (z8:oV)  (v9:Value)  (z10:oV)  (v11:Value) (r:eS) (h:cS rc U p0 p1 p2=some r):
  aV Tryz.prog 146 #[vP bx0,vI (p1),vI (p2)] [bS bx0 [vP bx1,v9,vI (p0.2.2.1),v11] 226,bS bx1 [vS (p0.1.1.1),v2,v3,v4,v5,vI (p0.1.2.2.1),v7] 176,Sl aJ v2 p0.1.1.2.1,Sl aF v3 p0.1.1.2.2,Sl bL v4 p0.1.2.1.1,S2 aW v5 z6 p0.1.2.1.2,S2 bL v7 z8 p0.1.2.2.2,S2 bL v9 z10 p0.2.1,Sl aW v11 p0.2.2.2] (fun x:Unit=>Value.tuple #[vI (r.1),vI (r.2)]) (fun x l=>l) (fun _ l=>l):=by
 refine aV.of Tryz.func146 rfl Tryz.ntmps146 rfl fun c=>?_
 refine sqR<|qkAsg rfl<|qkAsg rfl<|dtN<|sqR<|qkMove rfl<|aB (bU rfl) rfl<|qkFld rfl<|aB (cZ rfl (aC.fact 0 rfl) rfl rfl rfl) rfl<|qkMove rfl<|ckE h fun j1 h=>aB (bG rfl rfl (aC.fact 8 rfl) rfl rfl j1) rfl<|aB (gV (cs:=[vI ((at' p0.2.2.2 p1).1),vI ((at' p0.2.2.2 p1).2)]) rfl (aC.fact 8 rfl) aU rfl rfl rfl rfl j1) rfl<|aE (aG.alloc (cs:=Oz) rfl rfl) rfl fun b2=>aY 0 (vs:=[vI ((at' p0.2.2.2 p1).1),vI ((at' p0.2.2.2 p1).2)]) rfl rfl rfl rfl rfl rfl<|dtN<|aH<|aR<|sqR<|qkFld rfl<|qkLd 0 rfl<|aB (Bg rfl rfl) rfl<|qkAsg rfl<|dtN ?_
 refine eZ h rfl (fun h=>?_) fun h=>?_
 ·refine sqR<|qkMove rfl<|qkLdA 0 rfl<|qkMove rfl<|bnE h fun r4 w5 h=>aE (aG.callQ VE (CO U bx0 bx1 v2 v3 v4 v5 z6 v7 z8 v9 z10 v11 r4 w5) rfl (iJ [0,1,2,3,4,5,6,7,8] rfl)) rfl fun x6=>qkMove rfl<|qkAdd rfl<|qkAsg rfl<|qkAsg rfl<|dtN<|aN<|bT<|aI ?_
  cases h
  exact dR () rfl rfl (RV.tmp rfl) (RV.tmp rfl) .nil aA.nil
 refine sqR<|qkFld rfl<|qkLd 0 rfl<|aB (Bg rfl rfl) rfl<|qkAsg rfl<|dtN ?_
 refine eZ h rfl (fun h=>?_) fun h=>?_
 ·refine sqR<|qkMove rfl<|qkMove rfl<|qkAdd rfl<|qkMove rfl<|bnE h fun r8 w9 h=>aE (aG.callQ zD (hrc bx0 bx1 v2 v3 v4 v5 z6 v7 z8 v9 z10 v11 r8 w9) rfl (iJ [0,1,2,3,4,5,6,7,8] rfl)) rfl fun x10=>qkMove rfl<|qkExt rfl<|qkExt rfl<|qkAsg rfl<|qkAsg rfl<|dtN<|sqR<|qkFld rfl<|qkLd 0 rfl<|qkMove rfl<|bnE h fun r11 w12 h=>aE (aG.callQ VF (KG U  r11 w12) rfl .nil) rfl fun x13=>qkMove rfl<|qkAsg rfl<|qkAsg rfl<|dtN<|aN<|bT<|aI ?_
  cases h
  exact dR () rfl rfl (RV.tmp rfl) (RV.tmp rfl) .nil aA.nil
 refine sqR<|qkFld rfl<|qkLd 0 rfl<|aB (Bg rfl rfl) rfl<|qkAsg rfl<|dtN ?_
 refine eZ h rfl (fun h=>?_) fun h=>?_
 ·refine sqR<|qkMove rfl<|qkFld rfl<|qkLd 0 rfl<|qkMove rfl<|AD (A:=eS) (B:=Unit) (vs:=[vP bx0,vI ((at' p0.2.2.2 p1).1),vI (p1)]) (fun a17=>mE  a17=some r) (fun a17 b18=>Value.tuple #[vI (a17.1),vI (a17.2)]) (fun a17 b18=>[]) (fun a17 b18=>[bS bx0 [vP bx1,v9,vI (p0.2.2.1),v11] 226,bS bx1 [vS (p0.1.1.1),v2,v3,v4,v5,vI (p0.1.2.2.1),v7] 176,Sl aJ v2 p0.1.1.2.1,Sl aF v3 p0.1.1.2.2,Sl bL v4 p0.1.2.1.1,S2 aW v5 z6 p0.1.2.1.2,S2 bL v7 z8 p0.1.2.2.2,S2 bL v9 z10 p0.2.1,Sl aW v11 p0.2.2.2]) (uC.fn (show aO Tryz.prog 164 from Tryz.call164) rfl) Tryz.func164 rfl Tryz.ntmps164 rfl rfl ?_ ?_
  ·refine sqR<|qkAsg rfl<|qkAsg rfl<|dtN<|sqR ?_
   refine aE (aG.alloc (cs:=cellsOf cE (List.replicate 24 (0:Int))) rfl (by kernel_rfl)) rfl fun b19=>?_
   refine dtN<|aH ?_
   refine JR.start [0,1,3,7,15,31,63,127,0,256,768,1792,4095,8191,16383,32767] 12 mixedOrders (by decide +kernel) ?_
   refine JR.open (by exact rfl) ?_
   refine jkMove rfl<|jqN rfl (bU rfl)<|jkFld rfl<|bD rfl .nil (lA 0 rfl) (cZ rfl (aC.fact 0 rfl) rfl rfl rfl) aK.z<|jqN rfl (bU rfl)<|jkFld rfl<|jkFld rfl<|bD rfl .nil (lA 1 rfl) (cZ rfl (aC.fact 0 rfl) rfl rfl rfl) aK.z<|jkMove rfl<|jqN rfl (bU rfl)<|jkFld rfl<|bD rfl .nil (lA 0 rfl) (cZ rfl (aC.fact 0 rfl) rfl rfl rfl) aK.z<|bF 12 rfl rfl<|ckE h fun j20 h=>aB (cG rfl rfl (aC.fact 5 rfl) rfl rfl j20) rfl<|aB (cI rfl (aC.fact 5 rfl) rfl rfl j20) rfl<|aB (fM rfl (aC.el (aC.fact 5 rfl) j20.1 j20.2) rfl) rfl<|qkAsg rfl<|dtN<|aH<|midU (fun a23=>qA U p0 p1 a23=some r) (fun a23 b24=>[(0,vP bx0),(1,vI ((at' p0.2.2.2 p1).1)),(2,vI (p1)),(7,vI (a23.1)),(8,vP b19),(9,vI (List.length (at' p0.1.2.1.2 p0.2.2.1):Int))]) (fun a23 b24=>[bS b19 (cellsOf cE a23.2) 138]) ?_ ?_
   ·refine sqR<|qkMove rfl<|qkMove rfl<|dtN<|aR<|loopL (jD U p0 p1 rc) (fun a40 b41=>[(0,vP bx0),(1,vI ((at' p0.2.2.2 p1).1)),(2,vI (p1)),(7,vI (a40.1)),(8,vP b19),(9,vI (List.length (at' p0.1.2.1.2 p0.2.2.1):Int)),(26,vI (List.length (at' p0.1.2.1.2 p0.2.2.1):Int)),(27,vI (a40.2.1))]) (fun a40 b41=>[bS b19 (cellsOf cE a40.2.2) 138]) ((0:Int),(0:Int),(List.replicate 24 (0:Int))) () h SF (aS.ix [0] rfl rfl) ?_
    intro k42 a40 b41 h
    refine sqR<|qkLss rfl<|dtN<|aH ?_
    refine eZ h rfl (fun h=>?_) fun h=>?_
    ·refine cL<|aH<|aR<|sqR<|qkMove rfl<|qkAsg rfl<|dtN<|aM<|qkMove rfl<|qkMove rfl<|qkMove rfl<|qkAdd rfl<|qkMove rfl<|bnE h fun r44 w45 h=>aE (aG.callQ zD (hrc bx0 bx1 v2 v3 v4 v5 z6 v7 z8 v9 z10 v11 r44 w45) rfl (iJ [0,1,2,3,4,5,6,7,8] rfl)) rfl fun x46=>qkMove rfl<|qkExt rfl<|qkExt rfl<|ckE h fun j47 h=>aB (eN rfl rfl rfl rfl rfl j47.1) rfl<|Dk 0 (e:=cE) r44.1 j47 rfl rfl rfl rfl rfl rfl rfl<|qkAsg rfl<|eI<|inT<|aM<|qkAdd rfl<|qkMove rfl<|dtN ?_
     exact Ah (r44.2,(wI .i64 (a40.2.1+(1:Int))),(List.set a40.2.2 (Int.toNat a40.2.1) r44.1)) () h SF rfl
    refine gH ?_
    exact iQ (a40.1,a40.2.2) () h SF rfl
   intro a23 b24 h
   refine aH<|midU (fun a26=>jC U p0 p1 a23 a26=some r) (fun a26 b27=>[(1,vI ((at' p0.2.2.2 p1).1)),(7,vI (a26)),(8,vP b19),(9,vI (List.length (at' p0.1.2.1.2 p0.2.2.1):Int))]) (fun a26 b27=>[bS b19 (cellsOf cE a23.2) 138]) ?_ ?_
   ·refine sqR<|qkMove rfl<|qkEql rfl<|dtN ?_
    refine eZ h rfl (fun h=>?_) fun h=>?_
    ·refine aM<|qkMove rfl<|aB (bU rfl) rfl<|qkFld rfl<|aB (cZ rfl (aC.fact 0 rfl) rfl rfl rfl) rfl<|qkMove rfl<|bnE h fun r33 w34 h=>aE (aG.callQ VC (Ot U v11 r33 w34) rfl (iJ [8] rfl)) rfl fun x35=>qkAsg rfl<|dtN ?_
     exact iQ (r33) () h SF rfl
    refine cL ?_
    exact iQ (a23.1) () h SF rfl
   intro a26 b27 h
   refine sqR<|qkMove rfl<|qkMove rfl<|ckE h fun j28 h=>aB (NA rfl rfl rfl rfl j28) rfl<|bnE h fun r29 w30 h=>aE (aG.callQ VJ (MH U (Value.slice (some ⟨b19,0,none⟩) (Int.toNat (List.length (at' p0.1.2.1.2 p0.2.2.1):Int)) 24) r29 w30) rfl (aA.cons (RQ (i:=0) rfl cW j28 (by decide)) .nil)) rfl fun x31=>?_
   refine qkMove rfl<|qkAsg rfl<|qkAsg rfl<|dtN<|aN ?_
   exact vL (r29,a26) () h (.inl rfl) (FE.r2 rfl (RV.tmp rfl) (RV.tmp rfl)) rfl .nil (aA.refl _ _)
  intro a17 b18 h
  unfold mE at h
  refine qkExt rfl<|qkExt rfl<|qkAsg rfl<|qkAsg rfl<|dtN<|aN<|bT<|aI ?_
  cases h
  exact dR () rfl rfl (RV.tmp rfl) (RV.tmp rfl) (aS.refl _) aA.nil
 refine sqR<|qkFld rfl<|qkLd 0 rfl<|aB (Bg rfl rfl) rfl<|qkAsg rfl<|dtN ?_
 refine eZ h rfl (fun h=>?_) fun h=>?_
 ·refine sqR<|qkMove rfl<|qkMove rfl<|qkAdd rfl<|qkMove rfl<|bnE h fun r49 w50 h=>aE (aG.callQ zD (hrc bx0 bx1 v2 v3 v4 v5 z6 v7 z8 v9 z10 v11 r49 w50) rfl (iJ [0,1,2,3,4,5,6,7,8] rfl)) rfl fun x51=>qkMove rfl<|qkExt rfl<|qkExt rfl<|qkAsg rfl<|qkAsg rfl<|dtN<|sqR<|qkMove rfl<|qkMove rfl<|qkMove rfl<|bnE h fun r52 w53 h=>aE (aG.callQ zD (hrc bx0 bx1 v2 v3 v4 v5 z6 v7 z8 v9 z10 v11 r52 w53) rfl (iJ [0,1,2,3,4,5,6,7,8] rfl)) rfl fun x54=>qkMove rfl<|qkExt rfl<|qkExt rfl<|qkAsg rfl<|qkAsg rfl<|dtN<|sqR<|qkFld rfl<|qkLd 0 rfl<|qkMove rfl<|qkMove rfl<|bnE h fun r55 w56 h=>aE (aG.callQ VH (IE U  r55 w56) rfl .nil) rfl fun x57=>qkMove rfl<|qkAsg rfl<|qkAsg rfl<|dtN<|aN<|bT<|aI ?_
  cases h
  exact dR () rfl rfl (RV.tmp rfl) (RV.tmp rfl) .nil aA.nil
 refine eJ<|inT<|sqR<|qkMove rfl<|qkMove rfl<|qkAdd rfl<|qkMove rfl<|bnE h fun r58 w59 h=>aE (aG.callQ zD (hrc bx0 bx1 v2 v3 v4 v5 z6 v7 z8 v9 z10 v11 r58 w59) rfl (iJ [0,1,2,3,4,5,6,7,8] rfl)) rfl fun x60=>qkMove rfl<|qkExt rfl<|qkExt rfl<|qkAsg rfl<|qkAsg rfl<|dtN<|sqR<|qkMove rfl<|qkMove rfl<|qkMove rfl<|bnE h fun r61 w62 h=>aE (aG.callQ zD (hrc bx0 bx1 v2 v3 v4 v5 z6 v7 z8 v9 z10 v11 r61 w62) rfl (iJ [0,1,2,3,4,5,6,7,8] rfl)) rfl fun x63=>qkMove rfl<|qkExt rfl<|qkExt rfl<|qkAsg rfl<|qkAsg rfl<|dtN<|sqR<|qkMove rfl<|qkMove rfl<|qkMove rfl<|bnE h fun r64 w65 h=>aE (aG.callQ zD (hrc bx0 bx1 v2 v3 v4 v5 z6 v7 z8 v9 z10 v11 r64 w65) rfl (iJ [0,1,2,3,4,5,6,7,8] rfl)) rfl fun x66=>qkMove rfl<|qkExt rfl<|qkExt rfl<|qkAsg rfl<|qkAsg rfl<|dtN<|aH<|sqR<|qkMove rfl<|qkNeq rfl<|dtN ?_
 refine eZ h rfl (fun h=>?_) fun h=>?_
 ·refine sqR<|qkMove rfl<|qkMove rfl<|qkAsg rfl<|qkAsg rfl<|dtN<|aN<|aI ?_
  cases h
  exact dR () rfl rfl (RV.tmp rfl) (RV.tmp rfl) .nil aA.nil
 refine cL<|sqR<|qkMove rfl<|qkMove rfl<|qkAsg rfl<|qkAsg rfl<|dtN<|aN ?_
 cases h
 exact dR () rfl rfl (RV.tmp rfl) (RV.tmp rfl) .nil aA.nil
theorem BU (U:Nat):∀{p0:KP} {p1:Int} {p2:Int} (a:Nat)  (b:Nat)  (e:Value)  (f:Value)  (g:Value)  (i:Value)  (m:jT)  (j:Value)  (n:oV)  (k:Value)  (d:oV)  (c:Value) (r:eS),bP U p0 p1 p2=some r->
  aV Tryz.prog 146 #[vP a,vI (p1),vI (p2)] [bS a [vP b,k,vI (p0.2.2.1),c] 226,bS b [vS (p0.1.1.1),e,f,g,i,vI (p0.1.2.2.1),j] 176,Sl aJ e p0.1.1.2.1,Sl aF f p0.1.1.2.2,Sl bL g p0.1.2.1.1,S2 aW i m p0.1.2.1.2,S2 bL j n p0.1.2.2.2,S2 bL k d p0.2.1,Sl aW c p0.2.2.2] (fun x:Unit=>Value.tuple #[vI (r.1),vI (r.2)]) (fun x l=>l) (fun _ l=>l):=by
 induction U with
 |zero=>intros;rename_i h;cases h
 |succ U o=>exact fun a b e f g i m j n k d c r h=>Ba (bP U) U o a b e f g i m j n k d c r h
end
end Go.Proofs.YtpenklncfhiloaaGreatDoor
end
